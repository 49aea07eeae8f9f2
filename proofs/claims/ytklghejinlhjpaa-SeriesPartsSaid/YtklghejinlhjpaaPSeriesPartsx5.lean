/- This file proves, function by function, what the Go functions that one law uses compute; most of it was printed by a program (wip/tools of this session, over the kit's print). -/
import Derived.Test.YtklghejinlhjpaaPSeriesPartsx0
import Derived.Test.YtklghejinlhjpaaPSeriesPartsx1
import Derived.Test.YtklghejinlhjpaaPSeriesPartsx2
import Derived.Test.YtklghejinlhjpaaPSeriesPartsx3
import Derived.Test.YtklghejinlhjpaaPSeriesPartsx4
namespace Go.Proofs.Ytklghejinlhjpaa.PSeriesParts
open Go.RowKit Go.Proofs.YtklghejinlhjpaaW.PrintWords Go.Proofs.YtklghejinlhjpaaW.PrintLast Go.Proofs.YtklghejinlhjpaaW.PrintMore
attribute [local go_sem] max2_int min2_int max_two min_two max_three min_three max_four min_four   -- for this text's walks alone
set_option linter.unusedVariables false
set_option linter.unusedSimpArgs false

/-! ### shapesearchlaw09_SeriesParts: function 6 -/
mutual
def shapesearchlaw09_SeriesParts.j0 : Nat → Int → Int → Int → Bool → Int → Int → List Int → Int → Int → List Int → Int → Int → List Int → Option (Bool)
 | 0,_,_,_,_,_,_,_,_,_,_,_,_,_=>none
 | k + 1,x3,x10,x11,x90,x258000,x258001,x258002,x267000,x267001,x267002,x274000,x274001,x274002=>if x90 = true then (some false) else ((series_Join.f k x267000 x267001 x267002 (wrap64 (x274000 + (wrap64 (x258001 * (wrap64 (x3)))))) x274001 x274002).bind fun bt290=>(if bt290.2.2.2 = 0 then (shapesearchlaw09_SeriesParts.j1 k x3 x10 x11 ((bt290.2.2.1.length : Int) != (wrap64 ((wrap64 (x10 + (wrap64 (x3)))) + x11))) x267000 x267001 x267002 (wrap64 (x274000 + (wrap64 (x258001 * (wrap64 (x3)))))) x274001 x274002 bt290.1 bt290.2.1 bt290.2.2.1) else (shapesearchlaw09_SeriesParts.j1 k x3 x10 x11 true x267000 x267001 x267002 (wrap64 (x274000 + (wrap64 (x258001 * (wrap64 (x3)))))) x274001 x274002 bt290.1 bt290.2.1 bt290.2.2.1)))
def shapesearchlaw09_SeriesParts.j1 : Nat → Int → Int → Int → Bool → Int → Int → List Int → Int → Int → List Int → Int → Int → List Int → Option (Bool)
 | 0,_,_,_,_,_,_,_,_,_,_,_,_,_=>none
 | k + 1,x3,x10,x11,x120,x267000,x267001,x267002,x290000,x290001,x290002,x297000,x297001,x297002=>if x120 = true then (some false) else ((series_Cut.f k x297000 x297001 x297002 (wrap64 (x10 + (wrap64 (x3)))) x11).bind fun bt297=>(if bt297.2.2.2 = 0 then ((shapesearchref09_Same.f k bt297.1 bt297.2.1 bt297.2.2.1 x290000 x290001 x290002).bind fun t304=>(if t304 = true then ((series_Starts.f k x297000 x297001 x297002 1).bind fun t305=>((series_Starts.f k x267000 x267001 x267002 1).bind fun t308=>((series_Starts.f k x290000 x290001 x290002 1).bind fun t311=>(if (t305.length : Int) = (wrap64 ((t308.length : Int) + (t311.length : Int))) then ((shapesearchlaw09_awake.f k).bind fun t314=>(some t314)) else (some false))))) else (some false))) else (some false)))
end
def shapesearchlaw09_SeriesParts.f (k : Nat) (l0 : List Int) (a1 : Int) (a2 : Int) (a3 : Int) : Option (Bool):=(shapesearchkeep_New.f l0).bind fun bt248=>((shapesearchkeep_Src_Series.f k bt248.1 bt248.2 40).bind fun bt251=>((shapesearchkeep_Mod.f (wrap64 (a1)) (wrap64 ((bt251.2.2.1.length : Int) + 1))).bind fun t258=>((shapesearchkeep_Mod.f (wrap64 (a2)) (wrap64 ((wrap64 ((bt251.2.2.1.length : Int) - t258)) + 1))).bind fun t259=>((series_Cut.f k bt251.1 bt251.2.1 bt251.2.2.1 0 t258).bind fun bt260=>((series_Cut.f k bt251.1 bt251.2.1 bt251.2.2.1 t258 t259).bind fun bt267=>((series_Join.f k bt260.1 bt260.2.1 bt260.2.2.1 bt267.1 bt267.2.1 bt267.2.2.1).bind fun bt274=>((series_Cut.f k bt251.1 bt251.2.1 bt251.2.2.1 0 (wrap64 (t258 + t259))).bind fun bt281=>(if bt260.2.2.2 = 0 then (if bt267.2.2.2 = 0 then (if bt274.2.2.2 = 0 then (if bt281.2.2.2 = 0 then ((shapesearchref09_Same.f k bt274.1 bt274.2.1 bt274.2.2.1 bt281.1 bt281.2.1 bt281.2.2.1).bind fun t288=>(shapesearchlaw09_SeriesParts.j0 k a3 t258 t259 (!t288) bt251.1 bt251.2.1 bt251.2.2.1 bt260.1 bt260.2.1 bt260.2.2.1 bt267.1 bt267.2.1 bt267.2.2.1)) else (shapesearchlaw09_SeriesParts.j0 k a3 t258 t259 true bt251.1 bt251.2.1 bt251.2.2.1 bt260.1 bt260.2.1 bt260.2.2.1 bt267.1 bt267.2.1 bt267.2.2.1)) else (shapesearchlaw09_SeriesParts.j0 k a3 t258 t259 true bt251.1 bt251.2.1 bt251.2.2.1 bt260.1 bt260.2.1 bt260.2.2.1 bt267.1 bt267.2.1 bt267.2.2.1)) else (shapesearchlaw09_SeriesParts.j0 k a3 t258 t259 true bt251.1 bt251.2.1 bt251.2.2.1 bt260.1 bt260.2.1 bt260.2.2.1 bt267.1 bt267.2.1 bt267.2.2.1)) else (shapesearchlaw09_SeriesParts.j0 k a3 t258 t259 true bt251.1 bt251.2.1 bt251.2.2.1 bt260.1 bt260.2.1 bt260.2.2.1 bt267.1 bt267.2.1 bt267.2.2.1)))))))))
theorem shapesearchlaw09_SeriesParts.mono_l : ∀ k,(∀ y0 y1 y2 y3 y4 y5 y6 y7 y8 y9 y10 y11 y12,LeO (shapesearchlaw09_SeriesParts.j0 k y0 y1 y2 y3 y4 y5 y6 y7 y8 y9 y10 y11 y12) (shapesearchlaw09_SeriesParts.j0 (k + 1) y0 y1 y2 y3 y4 y5 y6 y7 y8 y9 y10 y11 y12))∧(∀ y0 y1 y2 y3 y4 y5 y6 y7 y8 y9 y10 y11 y12,LeO (shapesearchlaw09_SeriesParts.j1 k y0 y1 y2 y3 y4 y5 y6 y7 y8 y9 y10 y11 y12) (shapesearchlaw09_SeriesParts.j1 (k + 1) y0 y1 y2 y3 y4 y5 y6 y7 y8 y9 y10 y11 y12))
 | 0=>⟨fun _ _ _ _ _ _ _ _ _ _ _ _ _ r h=>by simp [shapesearchlaw09_SeriesParts.j0] at h,fun _ _ _ _ _ _ _ _ _ _ _ _ _ r h=>by simp [shapesearchlaw09_SeriesParts.j1] at h⟩
 | k + 1=>by
  obtain ⟨ih0,ih1⟩:=shapesearchlaw09_SeriesParts.mono_l k
  refine ⟨?_,?_⟩
  ·
   intro y0 y1 y2 y3 y4 y5 y6 y7 y8 y9 y10 y11 y12
   unfold shapesearchlaw09_SeriesParts.j0
   repeat' first
   | (with_reducible exact ih0 _ _ _ _ _ _ _ _ _ _ _ _ _)
   | (with_reducible exact ih1 _ _ _ _ _ _ _ _ _ _ _ _ _)
   | (with_reducible exact series_Cut.mono _ _ _ _ _ _)
   | (with_reducible exact series_Join.mono _ _ _ _ _ _ _)
   | (with_reducible exact series_Starts.mono _ _ _ _ _)
   | (with_reducible exact shapesearchkeep_Src_Series.mono _ _ _ _)
   | (with_reducible exact shapesearchlaw09_awake.mono _)
   | (with_reducible exact shapesearchref09_Same.mono _ _ _ _ _ _ _)
   | (with_reducible exact LeO.refl _)
   | (with_reducible exact LeO.none _)
   | (with_reducible refine LeO.ite ?_ ?_)
   | (with_reducible refine LeO.bind ?_ (fun _=>?_))
   | exact ih0 _ _ _ _ _ _ _ _ _ _ _ _ _
   | exact ih1 _ _ _ _ _ _ _ _ _ _ _ _ _
   | exact series_Cut.mono _ _ _ _ _ _
   | exact series_Join.mono _ _ _ _ _ _ _
   | exact series_Starts.mono _ _ _ _ _
   | exact shapesearchkeep_Src_Series.mono _ _ _ _
   | exact shapesearchlaw09_awake.mono _
   | exact shapesearchref09_Same.mono _ _ _ _ _ _ _
   | exact LeO.none _
   | refine LeO.ite ?_ ?_
   | refine LeO.bind ?_ (fun _=>?_)
  ·
   intro y0 y1 y2 y3 y4 y5 y6 y7 y8 y9 y10 y11 y12
   unfold shapesearchlaw09_SeriesParts.j1
   repeat' first
   | (with_reducible exact ih0 _ _ _ _ _ _ _ _ _ _ _ _ _)
   | (with_reducible exact ih1 _ _ _ _ _ _ _ _ _ _ _ _ _)
   | (with_reducible exact series_Cut.mono _ _ _ _ _ _)
   | (with_reducible exact series_Join.mono _ _ _ _ _ _ _)
   | (with_reducible exact series_Starts.mono _ _ _ _ _)
   | (with_reducible exact shapesearchkeep_Src_Series.mono _ _ _ _)
   | (with_reducible exact shapesearchlaw09_awake.mono _)
   | (with_reducible exact shapesearchref09_Same.mono _ _ _ _ _ _ _)
   | (with_reducible exact LeO.refl _)
   | (with_reducible exact LeO.none _)
   | (with_reducible refine LeO.ite ?_ ?_)
   | (with_reducible refine LeO.bind ?_ (fun _=>?_))
   | exact ih0 _ _ _ _ _ _ _ _ _ _ _ _ _
   | exact ih1 _ _ _ _ _ _ _ _ _ _ _ _ _
   | exact series_Cut.mono _ _ _ _ _ _
   | exact series_Join.mono _ _ _ _ _ _ _
   | exact series_Starts.mono _ _ _ _ _
   | exact shapesearchkeep_Src_Series.mono _ _ _ _
   | exact shapesearchlaw09_awake.mono _
   | exact shapesearchref09_Same.mono _ _ _ _ _ _ _
   | exact LeO.none _
   | refine LeO.ite ?_ ?_
   | refine LeO.bind ?_ (fun _=>?_)
theorem shapesearchlaw09_SeriesParts.mono : ∀ a0 a1 a2 a3 k,LeO (shapesearchlaw09_SeriesParts.f k a0 a1 a2 a3) (shapesearchlaw09_SeriesParts.f (k + 1) a0 a1 a2 a3):=by
 intro a0 a1 a2 a3 k
 obtain ⟨ih0,ih1⟩:=shapesearchlaw09_SeriesParts.mono_l k
 unfold shapesearchlaw09_SeriesParts.f
 repeat' first
   | (with_reducible exact ih0 _ _ _ _ _ _ _ _ _ _ _ _ _)
   | (with_reducible exact ih1 _ _ _ _ _ _ _ _ _ _ _ _ _)
   | (with_reducible exact series_Cut.mono _ _ _ _ _ _)
   | (with_reducible exact series_Join.mono _ _ _ _ _ _ _)
   | (with_reducible exact series_Starts.mono _ _ _ _ _)
   | (with_reducible exact shapesearchkeep_Src_Series.mono _ _ _ _)
   | (with_reducible exact shapesearchlaw09_awake.mono _)
   | (with_reducible exact shapesearchref09_Same.mono _ _ _ _ _ _ _)
   | (with_reducible exact LeO.refl _)
   | (with_reducible exact LeO.none _)
   | (with_reducible refine LeO.ite ?_ ?_)
   | (with_reducible refine LeO.bind ?_ (fun _=>?_))
   | exact ih0 _ _ _ _ _ _ _ _ _ _ _ _ _
   | exact ih1 _ _ _ _ _ _ _ _ _ _ _ _ _
   | exact series_Cut.mono _ _ _ _ _ _
   | exact series_Join.mono _ _ _ _ _ _ _
   | exact series_Starts.mono _ _ _ _ _
   | exact shapesearchkeep_Src_Series.mono _ _ _ _
   | exact shapesearchlaw09_awake.mono _
   | exact shapesearchref09_Same.mono _ _ _ _ _ _ _
   | exact LeO.none _
   | refine LeO.ite ?_ ?_
   | refine LeO.bind ?_ (fun _=>?_)
def shapesearchlaw09_SeriesParts.T16 : Bool × List (List Nat × List Nat):=(true,[([],[]),([0],[0]),([1],[1]),([2],[2]),([2],[2]),([3,4,2,2],[2,3,4]),([2,5],[2,5]),([6,5],[6]),([7],[7]),([8,7,7],[7,8]),([9,7],[7,9]),([7],[7]),([11,9,7],[7,11]),([12,7],[7,12]),([7],[7]),([14,12,7],[7,14]),([15,7],[7,15]),([13,16,7],[7,13,16]),([10,17,7],[7,10,17]),([7,18],[7,18]),([19,15],[19]),([20,20],[20]),([20,21],[20,21]),([22,21,0,1,2,3,4,5,6,7,8,9,10,11,12,13,14,15,16,17,18,19,20,21,22],[22])])
def shapesearchlaw09_SeriesParts.B16 : List Nat:=[0,1,3,7,7,31,63,127,255,511,1023,255,3071,7167,255,23551,56319,130047,262143,524287,1048575,2097151,4194303,8388607]
theorem shapesearchlaw09_SeriesParts.tab16 : rtab .any (opsOf Try.f6 16) = shapesearchlaw09_SeriesParts.T16:=by kernel_rfl
theorem shapesearchlaw09_SeriesParts.bits16 : waitsOk shapesearchlaw09_SeriesParts.T16.2 shapesearchlaw09_SeriesParts.B16 = true:=by kernel_rfl
set_option maxHeartbeats 8000000 in
set_option maxRecDepth 100000 in
theorem shapesearchlaw09_SeriesParts.calls (k : Nat) (A0 : Option Addr) (c0 : Nat) (l0 : List Int) (a1 : Int) (a2 : Int) (a3 : Int) (r : Bool) (w : World) (hr0 : Kd.C (Kd.int .i64) w A0 l0.length l0) (hc0 : l0.length ≤ c0) (h : shapesearchlaw09_SeriesParts.f k l0 a1 a2 a3 = some r) (hT_ : r = true) :
  Calls Try.prog 6 #[.slice A0 l0.length c0,.int .u8 a1,.int .u8 a2,.int .u8 a3] w fun e w'=>e = .returned (.bool r)∧Below w.heap.size w w':=by
 have HT_:=A_ hT_
 clear hT_
 have hu24:=Try.underlying24
 have HR0:=A_ hr0
 have HC0:=A_ hc0
 clear hr0 hc0
 have HB:=A_ (Below.refl w.heap.size w)
 have H : ((shapesearchkeep_New.f l0).bind fun bt248=>((shapesearchkeep_Src_Series.f k bt248.1 bt248.2 40).bind fun bt251=>((shapesearchkeep_Mod.f (wrap64 (a1)) (wrap64 ((bt251.2.2.1.length : Int) + 1))).bind fun t258=>((shapesearchkeep_Mod.f (wrap64 (a2)) (wrap64 ((wrap64 ((bt251.2.2.1.length : Int) - t258)) + 1))).bind fun t259=>((series_Cut.f k bt251.1 bt251.2.1 bt251.2.2.1 0 t258).bind fun bt260=>((series_Cut.f k bt251.1 bt251.2.1 bt251.2.2.1 t258 t259).bind fun bt267=>((series_Join.f k bt260.1 bt260.2.1 bt260.2.2.1 bt267.1 bt267.2.1 bt267.2.2.1).bind fun bt274=>((series_Cut.f k bt251.1 bt251.2.1 bt251.2.2.1 0 (wrap64 (t258 + t259))).bind fun bt281=>(if bt260.2.2.2 = 0 then (if bt267.2.2.2 = 0 then (if bt274.2.2.2 = 0 then (if bt281.2.2.2 = 0 then ((shapesearchref09_Same.f k bt274.1 bt274.2.1 bt274.2.2.1 bt281.1 bt281.2.1 bt281.2.2.1).bind fun t288=>(shapesearchlaw09_SeriesParts.j0 k a3 t258 t259 (!t288) bt251.1 bt251.2.1 bt251.2.2.1 bt260.1 bt260.2.1 bt260.2.2.1 bt267.1 bt267.2.1 bt267.2.2.1)) else (shapesearchlaw09_SeriesParts.j0 k a3 t258 t259 true bt251.1 bt251.2.1 bt251.2.2.1 bt260.1 bt260.2.1 bt260.2.2.1 bt267.1 bt267.2.1 bt267.2.2.1)) else (shapesearchlaw09_SeriesParts.j0 k a3 t258 t259 true bt251.1 bt251.2.1 bt251.2.2.1 bt260.1 bt260.2.1 bt260.2.2.1 bt267.1 bt267.2.1 bt267.2.2.1)) else (shapesearchlaw09_SeriesParts.j0 k a3 t258 t259 true bt251.1 bt251.2.1 bt251.2.2.1 bt260.1 bt260.2.1 bt260.2.2.1 bt267.1 bt267.2.1 bt267.2.2.1)) else (shapesearchlaw09_SeriesParts.j0 k a3 t258 t259 true bt251.1 bt251.2.1 bt251.2.2.1 bt260.1 bt260.2.1 bt260.2.2.1 bt267.1 bt267.2.1 bt267.2.2.1)))))))))) = some r:=h
 clear h
 replace H:=Option.bind_eq_some_iff.mp H
 obtain ⟨⟨t248,t249⟩,A50,H⟩:=H
 replace H : ((shapesearchkeep_Src_Series.f k t248 t249 40).bind fun bt251=>((shapesearchkeep_Mod.f (wrap64 (a1)) (wrap64 ((bt251.2.2.1.length : Int) + 1))).bind fun t258=>((shapesearchkeep_Mod.f (wrap64 (a2)) (wrap64 ((wrap64 ((bt251.2.2.1.length : Int) - t258)) + 1))).bind fun t259=>((series_Cut.f k bt251.1 bt251.2.1 bt251.2.2.1 0 t258).bind fun bt260=>((series_Cut.f k bt251.1 bt251.2.1 bt251.2.2.1 t258 t259).bind fun bt267=>((series_Join.f k bt260.1 bt260.2.1 bt260.2.2.1 bt267.1 bt267.2.1 bt267.2.2.1).bind fun bt274=>((series_Cut.f k bt251.1 bt251.2.1 bt251.2.2.1 0 (wrap64 (t258 + t259))).bind fun bt281=>(if bt260.2.2.2 = 0 then (if bt267.2.2.2 = 0 then (if bt274.2.2.2 = 0 then (if bt281.2.2.2 = 0 then ((shapesearchref09_Same.f k bt274.1 bt274.2.1 bt274.2.2.1 bt281.1 bt281.2.1 bt281.2.2.1).bind fun t288=>(shapesearchlaw09_SeriesParts.j0 k a3 t258 t259 (!t288) bt251.1 bt251.2.1 bt251.2.2.1 bt260.1 bt260.2.1 bt260.2.2.1 bt267.1 bt267.2.1 bt267.2.2.1)) else (shapesearchlaw09_SeriesParts.j0 k a3 t258 t259 true bt251.1 bt251.2.1 bt251.2.2.1 bt260.1 bt260.2.1 bt260.2.2.1 bt267.1 bt267.2.1 bt267.2.2.1)) else (shapesearchlaw09_SeriesParts.j0 k a3 t258 t259 true bt251.1 bt251.2.1 bt251.2.2.1 bt260.1 bt260.2.1 bt260.2.2.1 bt267.1 bt267.2.1 bt267.2.2.1)) else (shapesearchlaw09_SeriesParts.j0 k a3 t258 t259 true bt251.1 bt251.2.1 bt251.2.2.1 bt260.1 bt260.2.1 bt260.2.2.1 bt267.1 bt267.2.1 bt267.2.2.1)) else (shapesearchlaw09_SeriesParts.j0 k a3 t258 t259 true bt251.1 bt251.2.1 bt251.2.2.1 bt260.1 bt260.2.1 bt260.2.2.1 bt267.1 bt267.2.1 bt267.2.2.1))))))))) = some r:=H
 have A5:=A_ A50
 clear A50
 replace H:=Option.bind_eq_some_iff.mp H
 obtain ⟨⟨t251,t252,t253,t256⟩,A60,H⟩:=H
 replace H : ((shapesearchkeep_Mod.f (wrap64 (a1)) (wrap64 ((t253.length : Int) + 1))).bind fun t258=>((shapesearchkeep_Mod.f (wrap64 (a2)) (wrap64 ((wrap64 ((t253.length : Int) - t258)) + 1))).bind fun t259=>((series_Cut.f k t251 t252 t253 0 t258).bind fun bt260=>((series_Cut.f k t251 t252 t253 t258 t259).bind fun bt267=>((series_Join.f k bt260.1 bt260.2.1 bt260.2.2.1 bt267.1 bt267.2.1 bt267.2.2.1).bind fun bt274=>((series_Cut.f k t251 t252 t253 0 (wrap64 (t258 + t259))).bind fun bt281=>(if bt260.2.2.2 = 0 then (if bt267.2.2.2 = 0 then (if bt274.2.2.2 = 0 then (if bt281.2.2.2 = 0 then ((shapesearchref09_Same.f k bt274.1 bt274.2.1 bt274.2.2.1 bt281.1 bt281.2.1 bt281.2.2.1).bind fun t288=>(shapesearchlaw09_SeriesParts.j0 k a3 t258 t259 (!t288) t251 t252 t253 bt260.1 bt260.2.1 bt260.2.2.1 bt267.1 bt267.2.1 bt267.2.2.1)) else (shapesearchlaw09_SeriesParts.j0 k a3 t258 t259 true t251 t252 t253 bt260.1 bt260.2.1 bt260.2.2.1 bt267.1 bt267.2.1 bt267.2.2.1)) else (shapesearchlaw09_SeriesParts.j0 k a3 t258 t259 true t251 t252 t253 bt260.1 bt260.2.1 bt260.2.2.1 bt267.1 bt267.2.1 bt267.2.2.1)) else (shapesearchlaw09_SeriesParts.j0 k a3 t258 t259 true t251 t252 t253 bt260.1 bt260.2.1 bt260.2.2.1 bt267.1 bt267.2.1 bt267.2.2.1)) else (shapesearchlaw09_SeriesParts.j0 k a3 t258 t259 true t251 t252 t253 bt260.1 bt260.2.1 bt260.2.2.1 bt267.1 bt267.2.1 bt267.2.2.1)))))))) = some r:=H
 have A6:=A_ A60
 clear A60
 replace H:=Option.bind_eq_some_iff.mp H
 obtain ⟨t258,A70,H⟩:=H
 replace H : ((shapesearchkeep_Mod.f (wrap64 (a2)) (wrap64 ((wrap64 ((t253.length : Int) - t258)) + 1))).bind fun t259=>((series_Cut.f k t251 t252 t253 0 t258).bind fun bt260=>((series_Cut.f k t251 t252 t253 t258 t259).bind fun bt267=>((series_Join.f k bt260.1 bt260.2.1 bt260.2.2.1 bt267.1 bt267.2.1 bt267.2.2.1).bind fun bt274=>((series_Cut.f k t251 t252 t253 0 (wrap64 (t258 + t259))).bind fun bt281=>(if bt260.2.2.2 = 0 then (if bt267.2.2.2 = 0 then (if bt274.2.2.2 = 0 then (if bt281.2.2.2 = 0 then ((shapesearchref09_Same.f k bt274.1 bt274.2.1 bt274.2.2.1 bt281.1 bt281.2.1 bt281.2.2.1).bind fun t288=>(shapesearchlaw09_SeriesParts.j0 k a3 t258 t259 (!t288) t251 t252 t253 bt260.1 bt260.2.1 bt260.2.2.1 bt267.1 bt267.2.1 bt267.2.2.1)) else (shapesearchlaw09_SeriesParts.j0 k a3 t258 t259 true t251 t252 t253 bt260.1 bt260.2.1 bt260.2.2.1 bt267.1 bt267.2.1 bt267.2.2.1)) else (shapesearchlaw09_SeriesParts.j0 k a3 t258 t259 true t251 t252 t253 bt260.1 bt260.2.1 bt260.2.2.1 bt267.1 bt267.2.1 bt267.2.2.1)) else (shapesearchlaw09_SeriesParts.j0 k a3 t258 t259 true t251 t252 t253 bt260.1 bt260.2.1 bt260.2.2.1 bt267.1 bt267.2.1 bt267.2.2.1)) else (shapesearchlaw09_SeriesParts.j0 k a3 t258 t259 true t251 t252 t253 bt260.1 bt260.2.1 bt260.2.2.1 bt267.1 bt267.2.1 bt267.2.2.1))))))) = some r:=H
 have A7:=A_ A70
 clear A70
 replace H:=Option.bind_eq_some_iff.mp H
 obtain ⟨t259,A80,H⟩:=H
 replace H : ((series_Cut.f k t251 t252 t253 0 t258).bind fun bt260=>((series_Cut.f k t251 t252 t253 t258 t259).bind fun bt267=>((series_Join.f k bt260.1 bt260.2.1 bt260.2.2.1 bt267.1 bt267.2.1 bt267.2.2.1).bind fun bt274=>((series_Cut.f k t251 t252 t253 0 (wrap64 (t258 + t259))).bind fun bt281=>(if bt260.2.2.2 = 0 then (if bt267.2.2.2 = 0 then (if bt274.2.2.2 = 0 then (if bt281.2.2.2 = 0 then ((shapesearchref09_Same.f k bt274.1 bt274.2.1 bt274.2.2.1 bt281.1 bt281.2.1 bt281.2.2.1).bind fun t288=>(shapesearchlaw09_SeriesParts.j0 k a3 t258 t259 (!t288) t251 t252 t253 bt260.1 bt260.2.1 bt260.2.2.1 bt267.1 bt267.2.1 bt267.2.2.1)) else (shapesearchlaw09_SeriesParts.j0 k a3 t258 t259 true t251 t252 t253 bt260.1 bt260.2.1 bt260.2.2.1 bt267.1 bt267.2.1 bt267.2.2.1)) else (shapesearchlaw09_SeriesParts.j0 k a3 t258 t259 true t251 t252 t253 bt260.1 bt260.2.1 bt260.2.2.1 bt267.1 bt267.2.1 bt267.2.2.1)) else (shapesearchlaw09_SeriesParts.j0 k a3 t258 t259 true t251 t252 t253 bt260.1 bt260.2.1 bt260.2.2.1 bt267.1 bt267.2.1 bt267.2.2.1)) else (shapesearchlaw09_SeriesParts.j0 k a3 t258 t259 true t251 t252 t253 bt260.1 bt260.2.1 bt260.2.2.1 bt267.1 bt267.2.1 bt267.2.2.1)))))) = some r:=H
 have A8:=A_ A80
 clear A80
 replace H:=Option.bind_eq_some_iff.mp H
 obtain ⟨⟨t260,t261,t262,t265⟩,A90,H⟩:=H
 replace H : ((series_Cut.f k t251 t252 t253 t258 t259).bind fun bt267=>((series_Join.f k t260 t261 t262 bt267.1 bt267.2.1 bt267.2.2.1).bind fun bt274=>((series_Cut.f k t251 t252 t253 0 (wrap64 (t258 + t259))).bind fun bt281=>(if t265 = 0 then (if bt267.2.2.2 = 0 then (if bt274.2.2.2 = 0 then (if bt281.2.2.2 = 0 then ((shapesearchref09_Same.f k bt274.1 bt274.2.1 bt274.2.2.1 bt281.1 bt281.2.1 bt281.2.2.1).bind fun t288=>(shapesearchlaw09_SeriesParts.j0 k a3 t258 t259 (!t288) t251 t252 t253 t260 t261 t262 bt267.1 bt267.2.1 bt267.2.2.1)) else (shapesearchlaw09_SeriesParts.j0 k a3 t258 t259 true t251 t252 t253 t260 t261 t262 bt267.1 bt267.2.1 bt267.2.2.1)) else (shapesearchlaw09_SeriesParts.j0 k a3 t258 t259 true t251 t252 t253 t260 t261 t262 bt267.1 bt267.2.1 bt267.2.2.1)) else (shapesearchlaw09_SeriesParts.j0 k a3 t258 t259 true t251 t252 t253 t260 t261 t262 bt267.1 bt267.2.1 bt267.2.2.1)) else (shapesearchlaw09_SeriesParts.j0 k a3 t258 t259 true t251 t252 t253 t260 t261 t262 bt267.1 bt267.2.1 bt267.2.2.1))))) = some r:=H
 have A9:=A_ A90
 clear A90
 replace H:=Option.bind_eq_some_iff.mp H
 obtain ⟨⟨t267,t268,t269,t272⟩,A100,H⟩:=H
 replace H : ((series_Join.f k t260 t261 t262 t267 t268 t269).bind fun bt274=>((series_Cut.f k t251 t252 t253 0 (wrap64 (t258 + t259))).bind fun bt281=>(if t265 = 0 then (if t272 = 0 then (if bt274.2.2.2 = 0 then (if bt281.2.2.2 = 0 then ((shapesearchref09_Same.f k bt274.1 bt274.2.1 bt274.2.2.1 bt281.1 bt281.2.1 bt281.2.2.1).bind fun t288=>(shapesearchlaw09_SeriesParts.j0 k a3 t258 t259 (!t288) t251 t252 t253 t260 t261 t262 t267 t268 t269)) else (shapesearchlaw09_SeriesParts.j0 k a3 t258 t259 true t251 t252 t253 t260 t261 t262 t267 t268 t269)) else (shapesearchlaw09_SeriesParts.j0 k a3 t258 t259 true t251 t252 t253 t260 t261 t262 t267 t268 t269)) else (shapesearchlaw09_SeriesParts.j0 k a3 t258 t259 true t251 t252 t253 t260 t261 t262 t267 t268 t269)) else (shapesearchlaw09_SeriesParts.j0 k a3 t258 t259 true t251 t252 t253 t260 t261 t262 t267 t268 t269)))) = some r:=H
 have A10:=A_ A100
 clear A100
 replace H:=Option.bind_eq_some_iff.mp H
 obtain ⟨⟨t274,t275,t276,t279⟩,A110,H⟩:=H
 replace H : ((series_Cut.f k t251 t252 t253 0 (wrap64 (t258 + t259))).bind fun bt281=>(if t265 = 0 then (if t272 = 0 then (if t279 = 0 then (if bt281.2.2.2 = 0 then ((shapesearchref09_Same.f k t274 t275 t276 bt281.1 bt281.2.1 bt281.2.2.1).bind fun t288=>(shapesearchlaw09_SeriesParts.j0 k a3 t258 t259 (!t288) t251 t252 t253 t260 t261 t262 t267 t268 t269)) else (shapesearchlaw09_SeriesParts.j0 k a3 t258 t259 true t251 t252 t253 t260 t261 t262 t267 t268 t269)) else (shapesearchlaw09_SeriesParts.j0 k a3 t258 t259 true t251 t252 t253 t260 t261 t262 t267 t268 t269)) else (shapesearchlaw09_SeriesParts.j0 k a3 t258 t259 true t251 t252 t253 t260 t261 t262 t267 t268 t269)) else (shapesearchlaw09_SeriesParts.j0 k a3 t258 t259 true t251 t252 t253 t260 t261 t262 t267 t268 t269))) = some r:=H
 have A11:=A_ A110
 clear A110
 replace H:=Option.bind_eq_some_iff.mp H
 obtain ⟨⟨t281,t282,t283,t286⟩,A120,H⟩:=H
 replace H : (if t265 = 0 then (if t272 = 0 then (if t279 = 0 then (if t286 = 0 then ((shapesearchref09_Same.f k t274 t275 t276 t281 t282 t283).bind fun t288=>(shapesearchlaw09_SeriesParts.j0 k a3 t258 t259 (!t288) t251 t252 t253 t260 t261 t262 t267 t268 t269)) else (shapesearchlaw09_SeriesParts.j0 k a3 t258 t259 true t251 t252 t253 t260 t261 t262 t267 t268 t269)) else (shapesearchlaw09_SeriesParts.j0 k a3 t258 t259 true t251 t252 t253 t260 t261 t262 t267 t268 t269)) else (shapesearchlaw09_SeriesParts.j0 k a3 t258 t259 true t251 t252 t253 t260 t261 t262 t267 t268 t269)) else (shapesearchlaw09_SeriesParts.j0 k a3 t258 t259 true t251 t252 t253 t260 t261 t262 t267 t268 t269)) = some r:=H
 have A12:=A_ A120
 clear A120
 have HC13:=A_ H
 clear H
 go_enter Try.func6,Try.ntmps6
 go_upto_region 8 with (first|((with_reducible refine gate_callee (f:=9) rfl ?_);refine goesL_ (some 26) rfl rfl Try.func9 (by kernel_rfl) rfl #[.slice A0 l0.length c0] rfl (by (try simp only [List.map_toArray,List.map_cons,List.map_nil]);first|done|rfl|(simp only [List.length_drop,List.length_take];rfl)) ?_;(with_reducible refine (shapesearchkeep_New.calls _ _ l0 t248 t249 w _ ?side1 ?side2 ?side3 A5.out).mono ?_);(case side1=>repeat (first|(with_reducible first|exact HB.out|apply ba|apply bb|apply bc)|exact HB.out));(case side2=>exact HR0.out);(case side3=>exact HC0.out);rintro e w14 ⟨g250,rfl,hi,hb,hb2⟩;refine ⟨_,rfl,?_⟩;have n0_:=A_ (hb);have n1_:=A_ (hi);clear HB;have HB:=n0_;have HI250:=n1_;clear n0_ n1_;(try clear hb);(try clear hb2);(try clear hk);(try clear hi))|((with_reducible refine gate_callee (f:=10) rfl ?_);refine goesL_ (some 27) rfl rfl Try.func10 (by kernel_rfl) rfl #[.pointer (some ⟨g250,0,none⟩),.int .i64 40] rfl (by (try simp only [List.map_toArray,List.map_cons,List.map_nil]);first|done|rfl|(simp only [List.length_drop,List.length_take];rfl)) ?_;(with_reducible refine (shapesearchkeep_Src_Series.calls k g250 t248 t249 40 t251 t252 t253 t256 w _ ?side1 ?side2 A6.out).mono ?_);(case side1=>repeat (first|(with_reducible first|exact HI250.out|apply IsS57.alloc|apply IsS57.drewN|apply IsS57.drew|apply IsS57.set_1)|exact HI250.out));(case side2=>repeat (first|(with_reducible first|exact HB.out|apply ba|apply bb|apply bc|refine below_set ?_ (IsS57.ge HI250.out))|exact HB.out));rintro e w15 ⟨v254,rfl,ho0,hi,hb,hk⟩;refine ⟨_,rfl,?_⟩;have n0_:=A_ (Kd.R_lower ho0 (below_size (by repeat (first|(with_reducible first|exact HB.out|apply ba|apply bb|apply bc|refine below_set ?_ (IsS57.ge HI250.out))|exact HB.out))));have n1_:=A_ (hb);have n2_:=A_ (hi);clear HB;clear HI250;have HO255:=n0_;have HB:=n1_;have HI250:=n2_;clear n0_ n1_ n2_;(try clear hb);(try clear hb2);(try clear hk);(try clear hi);(try clear ho0))|((with_reducible refine gate_dst (N:=9) rfl ?_);(try (refine gate_guard (by rfl) ?_;dsimp only));refine box_event ?hg (N:=9) ?hd (cs:=#[.int .i64 0,.int .i64 0,.slice none 0 0]) (t:=24) ?hr ?_;(case hd=>rfl);(case hg=>rfl);(case hr=>first|(go_simp;done)|(go_simp;rfl));intro gb257 hg w16 hbox hb;have n0_:=A_ (rw_ (by (with_reducible repeat (first|apply ra|apply rb|apply rc));exact HO255.out) hb);have n1_:=A_ (IsS57.below (by repeat (first|(with_reducible first|exact HI250.out|apply IsS57.alloc|apply IsS57.drewN|apply IsS57.drew|apply IsS57.set_1)|exact HI250.out)) hb);have n2_:=A_ (below_step (by repeat (first|(with_reducible first|exact HB.out|apply ba|apply bb|apply bc|refine below_set ?_ (IsS57.ge HI250.out))|exact HB.out)) hb);have n3_:=A_ (hbox);have n4_:=A_ ((by rw [hg];exact (below_size (by repeat (first|(with_reducible first|exact HB.out|apply ba|apply bb|apply bc|refine below_set ?_ (IsS57.ge HI250.out))|exact HB.out))) : w.heap.size ≤ gb257));have n5_:=A_ ((by rw [hg];exact (below_size (by repeat (first|(with_reducible first|exact HB.out|apply ba|apply bb|apply bc|refine below_set ?_ (IsS57.ge HI250.out))|exact HB.out))) : w.heap.size ≤ gb257));have n6_:=A_ ((by rw [hg];exact Nat.ne_of_lt (IsS57.lt (show IsS57 w _ g250 t248 t256 from by repeat (first|(with_reducible first|exact HI250.out|apply IsS57.alloc|apply IsS57.drewN|apply IsS57.drew|apply IsS57.set_1)|exact HI250.out))) : g250≠gb257));have n7_:=A_ ((by rw [hg];exact Nat.ne_of_gt (IsS57.lt (show IsS57 w _ g250 t248 t256 from by repeat (first|(with_reducible first|exact HI250.out|apply IsS57.alloc|apply IsS57.drewN|apply IsS57.drew|apply IsS57.set_1)|exact HI250.out))) : gb257≠g250));clear HO255;clear HI250;clear HB;have HO255:=n0_;have HI250:=n1_;have HB:=n2_;have BK257:=n3_;have GW257:=n4_;have GE257:=n5_;have NB250_257:=n6_;have NB257_250:=n7_;clear n0_ n1_ n2_ n3_ n4_ n5_ n6_ n7_;clear hb hbox hg;have hnb17:=NB257_250.out;have hnc17:=NB250_257.out;have hcz18_0 : w16.cell? ⟨gb257,0,none⟩ = some (.int .i64 0):=(blk_cell BK257.out 0).trans rfl;have hcz18_1 : w16.cell? ⟨gb257,1,none⟩ = some (.int .i64 0):=(blk_cell BK257.out 1).trans rfl;have hcz18_2 : w16.cell? ⟨gb257,2,none⟩ = some (.slice none 0 0):=(blk_cell BK257.out 2).trans rfl;have hfz18_0:=blk_frozen BK257.out 0;have hfz18_1:=blk_frozen BK257.out 1;have hfz18_2:=blk_frozen BK257.out 2;obtain ⟨Ao19,co19,eo19⟩:=Kd.R_slice HO255.out;subst eo19)|((with_reducible refine gate_callee (f:=17) rfl ?_);refine goesL_ (some 34) rfl rfl Try.func17 (by kernel_rfl) rfl #[.int .i64 (wrap64 (a1)),.int .i64 (wrap64 ((t253.length : Int) + 1))] rfl (by (try simp only [List.map_toArray,List.map_cons,List.map_nil]);first|done|rfl|(simp only [List.length_drop,List.length_take];rfl)) ?_;(with_reducible refine (shapesearchkeep_Mod.calls (wrap64 (a1)) (wrap64 ((t253.length : Int) + 1)) t258 _ A7.out).mono ?_);rintro e w' ⟨rfl,⟨nd,rfl⟩⟩;refine ⟨_,rfl,?_⟩)|((with_reducible refine gate_callee (f:=17) rfl ?_);refine goesL_ (some 43) rfl rfl Try.func17 (by kernel_rfl) rfl #[.int .i64 (wrap64 (a2)),.int .i64 (wrap64 ((wrap64 ((t253.length : Int) - t258)) + 1))] rfl (by (try simp only [List.map_toArray,List.map_cons,List.map_nil]);first|done|rfl|(simp only [List.length_drop,List.length_take];rfl)) ?_;(with_reducible refine (shapesearchkeep_Mod.calls (wrap64 (a2)) (wrap64 ((wrap64 ((t253.length : Int) - t258)) + 1)) t259 _ A8.out).mono ?_);rintro e w' ⟨rfl,⟨nd,rfl⟩⟩;refine ⟨_,rfl,?_⟩)|((with_reducible refine gate_callee (f:=18) rfl ?_);refine goesL_ (some 47) rfl rfl Try.func18 (by kernel_rfl) rfl #[.agg #[.int .i64 t251,.int .i64 t252,.slice Ao19 t253.length co19],.int .i64 0,.int .i64 t258] rfl (by (try simp only [List.map_toArray,List.map_cons,List.map_nil]);first|done|rfl|(simp only [List.length_drop,List.length_take];rfl)) ?_;(with_reducible refine (series_Cut.calls k t251 t252 _ _ t253 0 t258 t260 t261 t262 t265 _ ?side1 ?side2 A9.out).mono ?_);(case side1=>refine (rd_ (e:=3) (base:=w.heap.size) (ok:=fun k_=>True) (n:=t253.length) (c:=co19) ?_).2.2;exact (by (with_reducible repeat (first|apply ra|apply rb|apply rc));exact (rm (Kd.R_far (p:=⟨gb257,2,none⟩) (Kd.R_far (p:=⟨gb257,1,none⟩) (Kd.R_far (p:=⟨gb257,0,none⟩) (Kd.R_types HO255.out BK257.out (by decide)) (fun _ hk=>hk.2) (.int .i64 t251)) (fun _ hk=>hk.2) (.int .i64 t252)) (fun _ hk=>hk.2) (.slice Ao19 t253.length co19)) (fun _ h_=>h_.1))));(case side2=>exact (rd_ HO255.out).2.1);rintro e w20 ⟨v263,rfl,ho0,hb⟩;refine ⟨_,rfl,?_⟩;have n0_:=A_ (re (by (with_reducible repeat (first|apply ra|apply rb|apply rc));exact (rm (Kd.R_far (p:=⟨gb257,2,none⟩) (Kd.R_far (p:=⟨gb257,1,none⟩) (Kd.R_far (p:=⟨gb257,0,none⟩) (Kd.R_types HO255.out BK257.out (by decide)) (fun _ hk=>hk.2) (.int .i64 t251)) (fun _ hk=>hk.2) (.int .i64 t252)) (fun _ hk=>hk.2) (.slice Ao19 t253.length co19)) (fun _ h_=>h_.1))) (rs ho0) hb);have n1_:=A_ (Kd.R_lower (rn ho0 (rl (by (with_reducible repeat (first|apply ra|apply rb|apply rc));exact (rm (Kd.R_far (p:=⟨gb257,2,none⟩) (Kd.R_far (p:=⟨gb257,1,none⟩) (Kd.R_far (p:=⟨gb257,0,none⟩) (Kd.R_types HO255.out BK257.out (by decide)) (fun _ hk=>hk.2) (.int .i64 t251)) (fun _ hk=>hk.2) (.int .i64 t252)) (fun _ hk=>hk.2) (.slice Ao19 t253.length co19)) (fun _ h_=>h_.1))))) (below_size (by repeat (first|(with_reducible first|exact HB.out|apply ba|apply bb|apply bc|refine below_set ?_ (IsS57.ge HI250.out)|refine below_set ?_ GE257.out)|exact HB.out))));have n2_:=A_ (IsS57.below (show IsS57 w _ g250 t248 t256 from by repeat (first|(with_reducible first|exact HI250.out|apply IsS57.alloc|apply IsS57.drewN|apply IsS57.drew|apply IsS57.set_1|refine IsS57.far ?_ NB250_257.out _)|exact HI250.out)) hb);have n3_:=A_ (blk_below (g:=gb257) (o:=.cells #[.int .i64 t251,.int .i64 t252,.slice Ao19 t253.length co19] 24 (0,0)) (by (with_reducible repeat (first|refine blk_drewN ?_ _|refine blk_drew ?_|refine blk_alloc ?_ _));refine blk_put (cs:=#[.int .i64 t251,.int .i64 t252,.slice none 0 0]) ?_ 2 _ rfl;(with_reducible repeat (first|refine blk_drewN ?_ _|refine blk_drew ?_|refine blk_alloc ?_ _));refine blk_put (cs:=#[.int .i64 t251,.int .i64 0,.slice none 0 0]) ?_ 1 _ rfl;(with_reducible repeat (first|refine blk_drewN ?_ _|refine blk_drew ?_|refine blk_alloc ?_ _));refine blk_put (cs:=#[.int .i64 0,.int .i64 0,.slice none 0 0]) ?_ 0 _ rfl;(with_reducible repeat (first|refine blk_drewN ?_ _|refine blk_drew ?_|refine blk_alloc ?_ _));exact BK257.out) hb);have n4_:=A_ (below_step (by repeat (first|(with_reducible first|exact HB.out|apply ba|apply bb|apply bc|refine below_set ?_ (IsS57.ge HI250.out)|refine below_set ?_ GE257.out)|exact HB.out)) hb);clear HO255;clear HI250;clear BK257;clear HB;have HO255:=n0_;have HO264:=n1_;have HI250:=n2_;have BK257:=n3_;have HB:=n4_;clear n0_ n1_ n2_ n3_ n4_;(try clear hb);(try clear hb2);(try clear hk);(try clear hi);(try clear ho0))|((with_reducible refine gate_dst (N:=12) rfl ?_);(try (refine gate_guard (by rfl) ?_;dsimp only));refine box_event ?hg (N:=12) ?hd (cs:=#[.int .i64 0,.int .i64 0,.slice none 0 0]) (t:=24) ?hr ?_;(case hd=>rfl);(case hg=>rfl);(case hr=>first|(go_simp;done)|(go_simp;rfl));intro gb266 hg w21 hbox hb;have n0_:=A_ (rw_ (by (with_reducible repeat (first|apply ra|apply rb|apply rc));exact HO255.out) hb);have n1_:=A_ (rw_ (by (with_reducible repeat (first|apply ra|apply rb|apply rc));exact HO264.out) hb);have n2_:=A_ (IsS57.below (by repeat (first|(with_reducible first|exact HI250.out|apply IsS57.alloc|apply IsS57.drewN|apply IsS57.drew|apply IsS57.set_1|refine IsS57.far ?_ NB250_257.out _)|exact HI250.out)) hb);have n3_:=A_ (blk_below (g:=gb257) (o:=.cells #[.int .i64 t251,.int .i64 t252,.slice Ao19 t253.length co19] 24 (0,0)) (by (with_reducible repeat (first|refine blk_drewN ?_ _|refine blk_drew ?_|refine blk_alloc ?_ _));exact BK257.out) hb);have n4_:=A_ (below_step (by repeat (first|(with_reducible first|exact HB.out|apply ba|apply bb|apply bc|refine below_set ?_ (IsS57.ge HI250.out)|refine below_set ?_ GE257.out)|exact HB.out)) hb);have n5_:=A_ (hbox);have n6_:=A_ ((by rw [hg];exact (below_size (by repeat (first|(with_reducible first|exact HB.out|apply ba|apply bb|apply bc|refine below_set ?_ (IsS57.ge HI250.out)|refine below_set ?_ GE257.out)|exact HB.out))) : w.heap.size ≤ gb266));have n7_:=A_ ((by rw [hg];exact (below_size (by repeat (first|(with_reducible first|exact HB.out|apply ba|apply bb|apply bc|refine below_set ?_ (IsS57.ge HI250.out)|refine below_set ?_ GE257.out)|exact HB.out))) : w.heap.size ≤ gb266));have n8_:=A_ ((by rw [hg];exact Nat.ne_of_lt (blk_lt (g:=gb257) (o:=.cells #[.int .i64 t251,.int .i64 t252,.slice Ao19 t253.length co19] 24 (0,0)) (by (with_reducible repeat (first|refine blk_drewN ?_ _|refine blk_drew ?_|refine blk_alloc ?_ _));exact BK257.out)) : gb257≠gb266));have n9_:=A_ ((by rw [hg];exact Nat.ne_of_gt (blk_lt (g:=gb257) (o:=.cells #[.int .i64 t251,.int .i64 t252,.slice Ao19 t253.length co19] 24 (0,0)) (by (with_reducible repeat (first|refine blk_drewN ?_ _|refine blk_drew ?_|refine blk_alloc ?_ _));exact BK257.out)) : gb266≠gb257));have n10_:=A_ ((by rw [hg];exact Nat.ne_of_lt (IsS57.lt (show IsS57 w _ g250 t248 t256 from by repeat (first|(with_reducible first|exact HI250.out|apply IsS57.alloc|apply IsS57.drewN|apply IsS57.drew|apply IsS57.set_1|refine IsS57.far ?_ NB250_257.out _)|exact HI250.out))) : g250≠gb266));have n11_:=A_ ((by rw [hg];exact Nat.ne_of_gt (IsS57.lt (show IsS57 w _ g250 t248 t256 from by repeat (first|(with_reducible first|exact HI250.out|apply IsS57.alloc|apply IsS57.drewN|apply IsS57.drew|apply IsS57.set_1|refine IsS57.far ?_ NB250_257.out _)|exact HI250.out))) : gb266≠g250));clear HO255;clear HO264;clear HI250;clear BK257;clear HB;have HO255:=n0_;have HO264:=n1_;have HI250:=n2_;have BK257:=n3_;have HB:=n4_;have BK266:=n5_;have GW266:=n6_;have GE266:=n7_;have NB257_266:=n8_;have NB266_257:=n9_;have NB250_266:=n10_;have NB266_250:=n11_;clear n0_ n1_ n2_ n3_ n4_ n5_ n6_ n7_ n8_ n9_ n10_ n11_;clear hb hbox hg;have hnb22:=NB266_257.out;have hnc22:=NB257_266.out;have hnb23:=NB266_250.out;have hnc23:=NB250_266.out;have hcz24_0 : w21.cell? ⟨gb266,0,none⟩ = some (.int .i64 0):=(blk_cell BK266.out 0).trans rfl;have hcz24_1 : w21.cell? ⟨gb266,1,none⟩ = some (.int .i64 0):=(blk_cell BK266.out 1).trans rfl;have hcz24_2 : w21.cell? ⟨gb266,2,none⟩ = some (.slice none 0 0):=(blk_cell BK266.out 2).trans rfl;have hfz24_0:=blk_frozen BK266.out 0;have hfz24_1:=blk_frozen BK266.out 1;have hfz24_2:=blk_frozen BK266.out 2;obtain ⟨Ao25,co25,eo25⟩:=Kd.R_slice HO264.out;subst eo25;have hcz26_0 : w21.cell? ⟨gb257,0,none⟩ = some (.int .i64 t251):=(blk_cell BK257.out 0).trans rfl;have hcz26_1 : w21.cell? ⟨gb257,1,none⟩ = some (.int .i64 t252):=(blk_cell BK257.out 1).trans rfl;have hcz26_2 : w21.cell? ⟨gb257,2,none⟩ = some (.slice Ao19 t253.length co19):=(blk_cell BK257.out 2).trans rfl;have hfz26_0:=blk_frozen BK257.out 0;have hfz26_1:=blk_frozen BK257.out 1;have hfz26_2:=blk_frozen BK257.out 2)|((with_reducible refine gate_callee (f:=18) rfl ?_);refine goesL_ (some 54) rfl rfl Try.func18 (by kernel_rfl) rfl #[.agg #[.int .i64 t251,.int .i64 t252,.slice Ao19 t253.length co19],.int .i64 t258,.int .i64 t259] rfl (by (try simp only [List.map_toArray,List.map_cons,List.map_nil]);first|done|rfl|(simp only [List.length_drop,List.length_take];rfl)) ?_;(with_reducible refine (series_Cut.calls k t251 t252 _ _ t253 t258 t259 t267 t268 t269 t272 _ ?side1 ?side2 A10.out).mono ?_);(case side1=>refine (rd_ (e:=3) (base:=w.heap.size) (ok:=fun k_=>(True∧nb k_ (.slice Ao25 t262.length co25))) (n:=t253.length) (c:=co19) ?_).2.2;exact (by (with_reducible repeat (first|apply ra|apply rb|apply rc));exact (rm (Kd.R_far (p:=⟨gb266,2,none⟩) (Kd.R_far (p:=⟨gb266,1,none⟩) (Kd.R_far (p:=⟨gb266,0,none⟩) (Kd.R_types HO255.out BK266.out (by decide)) (fun _ hk=>hk.2) (.int .i64 t260)) (fun _ hk=>hk.2) (.int .i64 t261)) (fun _ hk=>hk.2) (.slice Ao25 t262.length co25)) (fun _ h_=>h_.1))));(case side2=>exact (rd_ HO255.out).2.1);rintro e w27 ⟨v270,rfl,ho0,hb⟩;refine ⟨_,rfl,?_⟩;have n0_:=A_ (re (by (with_reducible repeat (first|apply ra|apply rb|apply rc));exact (rm (Kd.R_far (p:=⟨gb266,2,none⟩) (Kd.R_far (p:=⟨gb266,1,none⟩) (Kd.R_far (p:=⟨gb266,0,none⟩) (Kd.R_types HO255.out BK266.out (by decide)) (fun _ hk=>hk.2) (.int .i64 t260)) (fun _ hk=>hk.2) (.int .i64 t261)) (fun _ hk=>hk.2) (.slice Ao25 t262.length co25)) (fun _ h_=>h_.1))) (rs ho0) hb);have n1_:=A_ (re (by (with_reducible repeat (first|apply ra|apply rb|apply rc));exact (rm (Kd.R_far (p:=⟨gb266,2,none⟩) (Kd.R_far (p:=⟨gb266,1,none⟩) (Kd.R_far (p:=⟨gb266,0,none⟩) (Kd.R_types HO264.out BK266.out (by decide)) (fun _ hk=>hk.2) (.int .i64 t260)) (fun _ hk=>hk.2) (.int .i64 t261)) (fun _ hk=>hk.2) (.slice Ao25 t262.length co25)) (fun _ h_=>h_.1))) (rs ho0) hb);have n2_:=A_ (Kd.R_lower (rn (rn ho0 (rl (by (with_reducible repeat (first|apply ra|apply rb|apply rc));exact (rm (Kd.R_far (p:=⟨gb266,2,none⟩) (Kd.R_far (p:=⟨gb266,1,none⟩) (Kd.R_far (p:=⟨gb266,0,none⟩) (Kd.R_types HO255.out BK266.out (by decide)) (fun _ hk=>hk.2) (.int .i64 t260)) (fun _ hk=>hk.2) (.int .i64 t261)) (fun _ hk=>hk.2) (.slice Ao25 t262.length co25)) (fun _ h_=>h_.1))))) (rl (by (with_reducible repeat (first|apply ra|apply rb|apply rc));exact (rm (Kd.R_far (p:=⟨gb266,2,none⟩) (Kd.R_far (p:=⟨gb266,1,none⟩) (Kd.R_far (p:=⟨gb266,0,none⟩) (Kd.R_types HO264.out BK266.out (by decide)) (fun _ hk=>hk.2) (.int .i64 t260)) (fun _ hk=>hk.2) (.int .i64 t261)) (fun _ hk=>hk.2) (.slice Ao25 t262.length co25)) (fun _ h_=>h_.1))))) (below_size (by repeat (first|(with_reducible first|exact HB.out|apply ba|apply bb|apply bc|refine below_set ?_ (IsS57.ge HI250.out)|refine below_set ?_ GE257.out|refine below_set ?_ GE266.out)|exact HB.out))));have n3_:=A_ (IsS57.below (show IsS57 w (((w21.setCell ⟨gb266,0,none⟩ (.int .i64 t260)).setCell ⟨gb266,1,none⟩ (.int .i64 t261)).setCell ⟨gb266,2,none⟩ (.slice Ao25 t262.length co25)) g250 t248 t256 from by repeat (first|(with_reducible first|exact HI250.out|apply IsS57.alloc|apply IsS57.drewN|apply IsS57.drew|apply IsS57.set_1|refine IsS57.far ?_ NB250_257.out _|refine IsS57.far ?_ NB250_266.out _)|exact HI250.out)) hb);have n4_:=A_ (blk_below (g:=gb257) (o:=.cells #[.int .i64 t251,.int .i64 t252,.slice Ao19 t253.length co19] 24 (0,0)) (by (with_reducible repeat (first|refine blk_drewN ?_ _|refine blk_drew ?_|refine blk_alloc ?_ _));refine blk_far ?_ NB257_266.out _;(with_reducible repeat (first|refine blk_drewN ?_ _|refine blk_drew ?_|refine blk_alloc ?_ _));refine blk_far ?_ NB257_266.out _;(with_reducible repeat (first|refine blk_drewN ?_ _|refine blk_drew ?_|refine blk_alloc ?_ _));refine blk_far ?_ NB257_266.out _;(with_reducible repeat (first|refine blk_drewN ?_ _|refine blk_drew ?_|refine blk_alloc ?_ _));exact BK257.out) hb);have n5_:=A_ (blk_below (g:=gb266) (o:=.cells #[.int .i64 t260,.int .i64 t261,.slice Ao25 t262.length co25] 24 (0,0)) (by (with_reducible repeat (first|refine blk_drewN ?_ _|refine blk_drew ?_|refine blk_alloc ?_ _));refine blk_put (cs:=#[.int .i64 t260,.int .i64 t261,.slice none 0 0]) ?_ 2 _ rfl;(with_reducible repeat (first|refine blk_drewN ?_ _|refine blk_drew ?_|refine blk_alloc ?_ _));refine blk_put (cs:=#[.int .i64 t260,.int .i64 0,.slice none 0 0]) ?_ 1 _ rfl;(with_reducible repeat (first|refine blk_drewN ?_ _|refine blk_drew ?_|refine blk_alloc ?_ _));refine blk_put (cs:=#[.int .i64 0,.int .i64 0,.slice none 0 0]) ?_ 0 _ rfl;(with_reducible repeat (first|refine blk_drewN ?_ _|refine blk_drew ?_|refine blk_alloc ?_ _));exact BK266.out) hb);have n6_:=A_ (below_step (by repeat (first|(with_reducible first|exact HB.out|apply ba|apply bb|apply bc|refine below_set ?_ (IsS57.ge HI250.out)|refine below_set ?_ GE257.out|refine below_set ?_ GE266.out)|exact HB.out)) hb);clear HO255;clear HO264;clear HI250;clear BK257;clear BK266;clear HB;have HO255:=n0_;have HO264:=n1_;have HO271:=n2_;have HI250:=n3_;have BK257:=n4_;have BK266:=n5_;have HB:=n6_;clear n0_ n1_ n2_ n3_ n4_ n5_ n6_;(try clear hb);(try clear hb2);(try clear hk);(try clear hi);(try clear ho0))|((with_reducible refine gate_dst (N:=14) rfl ?_);(try (refine gate_guard (by rfl) ?_;dsimp only));refine box_event ?hg (N:=14) ?hd (cs:=#[.int .i64 0,.int .i64 0,.slice none 0 0]) (t:=24) ?hr ?_;(case hd=>rfl);(case hg=>rfl);(case hr=>first|(go_simp;done)|(go_simp;rfl));intro gb273 hg w28 hbox hb;have n0_:=A_ (rw_ (by (with_reducible repeat (first|apply ra|apply rb|apply rc));exact HO255.out) hb);have n1_:=A_ (rw_ (by (with_reducible repeat (first|apply ra|apply rb|apply rc));exact HO264.out) hb);have n2_:=A_ (rw_ (by (with_reducible repeat (first|apply ra|apply rb|apply rc));exact HO271.out) hb);have n3_:=A_ (IsS57.below (by repeat (first|(with_reducible first|exact HI250.out|apply IsS57.alloc|apply IsS57.drewN|apply IsS57.drew|apply IsS57.set_1|refine IsS57.far ?_ NB250_257.out _|refine IsS57.far ?_ NB250_266.out _)|exact HI250.out)) hb);have n4_:=A_ (blk_below (g:=gb257) (o:=.cells #[.int .i64 t251,.int .i64 t252,.slice Ao19 t253.length co19] 24 (0,0)) (by (with_reducible repeat (first|refine blk_drewN ?_ _|refine blk_drew ?_|refine blk_alloc ?_ _));exact BK257.out) hb);have n5_:=A_ (blk_below (g:=gb266) (o:=.cells #[.int .i64 t260,.int .i64 t261,.slice Ao25 t262.length co25] 24 (0,0)) (by (with_reducible repeat (first|refine blk_drewN ?_ _|refine blk_drew ?_|refine blk_alloc ?_ _));exact BK266.out) hb);have n6_:=A_ (below_step (by repeat (first|(with_reducible first|exact HB.out|apply ba|apply bb|apply bc|refine below_set ?_ (IsS57.ge HI250.out)|refine below_set ?_ GE257.out|refine below_set ?_ GE266.out)|exact HB.out)) hb);have n7_:=A_ (hbox);have n8_:=A_ ((by rw [hg];exact (below_size (by repeat (first|(with_reducible first|exact HB.out|apply ba|apply bb|apply bc|refine below_set ?_ (IsS57.ge HI250.out)|refine below_set ?_ GE257.out|refine below_set ?_ GE266.out)|exact HB.out))) : w.heap.size ≤ gb273));have n9_:=A_ ((by rw [hg];exact (below_size (by repeat (first|(with_reducible first|exact HB.out|apply ba|apply bb|apply bc|refine below_set ?_ (IsS57.ge HI250.out)|refine below_set ?_ GE257.out|refine below_set ?_ GE266.out)|exact HB.out))) : w.heap.size ≤ gb273));have n10_:=A_ ((by rw [hg];exact Nat.ne_of_lt (blk_lt (g:=gb257) (o:=.cells #[.int .i64 t251,.int .i64 t252,.slice Ao19 t253.length co19] 24 (0,0)) (by (with_reducible repeat (first|refine blk_drewN ?_ _|refine blk_drew ?_|refine blk_alloc ?_ _));exact BK257.out)) : gb257≠gb273));have n11_:=A_ ((by rw [hg];exact Nat.ne_of_gt (blk_lt (g:=gb257) (o:=.cells #[.int .i64 t251,.int .i64 t252,.slice Ao19 t253.length co19] 24 (0,0)) (by (with_reducible repeat (first|refine blk_drewN ?_ _|refine blk_drew ?_|refine blk_alloc ?_ _));exact BK257.out)) : gb273≠gb257));have n12_:=A_ ((by rw [hg];exact Nat.ne_of_lt (blk_lt (g:=gb266) (o:=.cells #[.int .i64 t260,.int .i64 t261,.slice Ao25 t262.length co25] 24 (0,0)) (by (with_reducible repeat (first|refine blk_drewN ?_ _|refine blk_drew ?_|refine blk_alloc ?_ _));exact BK266.out)) : gb266≠gb273));have n13_:=A_ ((by rw [hg];exact Nat.ne_of_gt (blk_lt (g:=gb266) (o:=.cells #[.int .i64 t260,.int .i64 t261,.slice Ao25 t262.length co25] 24 (0,0)) (by (with_reducible repeat (first|refine blk_drewN ?_ _|refine blk_drew ?_|refine blk_alloc ?_ _));exact BK266.out)) : gb273≠gb266));have n14_:=A_ ((by rw [hg];exact Nat.ne_of_lt (IsS57.lt (show IsS57 w _ g250 t248 t256 from by repeat (first|(with_reducible first|exact HI250.out|apply IsS57.alloc|apply IsS57.drewN|apply IsS57.drew|apply IsS57.set_1|refine IsS57.far ?_ NB250_257.out _|refine IsS57.far ?_ NB250_266.out _)|exact HI250.out))) : g250≠gb273));have n15_:=A_ ((by rw [hg];exact Nat.ne_of_gt (IsS57.lt (show IsS57 w _ g250 t248 t256 from by repeat (first|(with_reducible first|exact HI250.out|apply IsS57.alloc|apply IsS57.drewN|apply IsS57.drew|apply IsS57.set_1|refine IsS57.far ?_ NB250_257.out _|refine IsS57.far ?_ NB250_266.out _)|exact HI250.out))) : gb273≠g250));clear HO255;clear HO264;clear HO271;clear HI250;clear BK257;clear BK266;clear HB;have HO255:=n0_;have HO264:=n1_;have HO271:=n2_;have HI250:=n3_;have BK257:=n4_;have BK266:=n5_;have HB:=n6_;have BK273:=n7_;have GW273:=n8_;have GE273:=n9_;have NB257_273:=n10_;have NB273_257:=n11_;have NB266_273:=n12_;have NB273_266:=n13_;have NB250_273:=n14_;have NB273_250:=n15_;clear n0_ n1_ n2_ n3_ n4_ n5_ n6_ n7_ n8_ n9_ n10_ n11_ n12_ n13_ n14_ n15_;clear hb hbox hg;have hnb29:=NB273_257.out;have hnc29:=NB257_273.out;have hnb30:=NB273_266.out;have hnc30:=NB266_273.out;have hnb31:=NB273_250.out;have hnc31:=NB250_273.out;have hcz32_0 : w28.cell? ⟨gb273,0,none⟩ = some (.int .i64 0):=(blk_cell BK273.out 0).trans rfl;have hcz32_1 : w28.cell? ⟨gb273,1,none⟩ = some (.int .i64 0):=(blk_cell BK273.out 1).trans rfl;have hcz32_2 : w28.cell? ⟨gb273,2,none⟩ = some (.slice none 0 0):=(blk_cell BK273.out 2).trans rfl;have hfz32_0:=blk_frozen BK273.out 0;have hfz32_1:=blk_frozen BK273.out 1;have hfz32_2:=blk_frozen BK273.out 2;obtain ⟨Ao33,co33,eo33⟩:=Kd.R_slice HO271.out;subst eo33;have hcz34_0 : w28.cell? ⟨gb266,0,none⟩ = some (.int .i64 t260):=(blk_cell BK266.out 0).trans rfl;have hcz34_1 : w28.cell? ⟨gb266,1,none⟩ = some (.int .i64 t261):=(blk_cell BK266.out 1).trans rfl;have hcz34_2 : w28.cell? ⟨gb266,2,none⟩ = some (.slice Ao25 t262.length co25):=(blk_cell BK266.out 2).trans rfl;have hfz34_0:=blk_frozen BK266.out 0;have hfz34_1:=blk_frozen BK266.out 1;have hfz34_2:=blk_frozen BK266.out 2)|((with_reducible refine gate_callee (f:=20) rfl ?_);refine goesL_ (some 60) rfl rfl Try.func20 (by kernel_rfl) rfl #[.agg #[.int .i64 t260,.int .i64 t261,.slice Ao25 t262.length co25],.agg #[.int .i64 t267,.int .i64 t268,.slice Ao33 t269.length co33]] rfl (by (try simp only [List.map_toArray,List.map_cons,List.map_nil]);first|done|rfl|(simp only [List.length_drop,List.length_take];rfl)) ?_;(with_reducible refine (series_Join.calls k t260 t261 _ _ t262 t267 t268 _ _ t269 t274 t275 t276 t279 _ ?side1 ?side2 ?side3 ?side4 A11.out).mono ?_);(case side1=>refine (rd_ (e:=3) (base:=w.heap.size) (ok:=fun k_=>((True∧nb k_ (.slice Ao19 t253.length co19))∧nb k_ (.slice Ao33 t269.length co33))) (n:=t262.length) (c:=co25) ?_).2.2;exact (by (with_reducible repeat (first|apply ra|apply rb|apply rc));exact (rm (Kd.R_far (p:=⟨gb273,2,none⟩) (Kd.R_far (p:=⟨gb273,1,none⟩) (Kd.R_far (p:=⟨gb273,0,none⟩) (Kd.R_types HO264.out BK273.out (by decide)) (fun _ hk=>hk.2) (.int .i64 t267)) (fun _ hk=>hk.2) (.int .i64 t268)) (fun _ hk=>hk.2) (.slice Ao33 t269.length co33)) (fun _ h_=>h_.1))));(case side2=>exact (rd_ HO264.out).2.1);(case side3=>refine (rd_ (e:=3) (base:=w.heap.size) (ok:=fun k_=>((True∧nb k_ (.slice Ao19 t253.length co19))∧nb k_ (.slice Ao25 t262.length co25))) (n:=t269.length) (c:=co33) ?_).2.2;exact (by (with_reducible repeat (first|apply ra|apply rb|apply rc));exact (rm (Kd.R_far (p:=⟨gb273,2,none⟩) (Kd.R_far (p:=⟨gb273,1,none⟩) (Kd.R_far (p:=⟨gb273,0,none⟩) (Kd.R_types HO271.out BK273.out (by decide)) (fun _ hk=>hk.2) (.int .i64 t267)) (fun _ hk=>hk.2) (.int .i64 t268)) (fun _ hk=>hk.2) (.slice Ao33 t269.length co33)) (fun _ h_=>h_.1))));(case side4=>exact (rd_ HO271.out).2.1);rintro e w35 ⟨v277,rfl,ho0,hb⟩;refine ⟨_,rfl,?_⟩;have n0_:=A_ (re (by (with_reducible repeat (first|apply ra|apply rb|apply rc));exact (rm (Kd.R_far (p:=⟨gb273,2,none⟩) (Kd.R_far (p:=⟨gb273,1,none⟩) (Kd.R_far (p:=⟨gb273,0,none⟩) (Kd.R_types HO255.out BK273.out (by decide)) (fun _ hk=>hk.2) (.int .i64 t267)) (fun _ hk=>hk.2) (.int .i64 t268)) (fun _ hk=>hk.2) (.slice Ao33 t269.length co33)) (fun _ h_=>h_.1))) (rs ho0) hb);have n1_:=A_ (re (by (with_reducible repeat (first|apply ra|apply rb|apply rc));exact (rm (Kd.R_far (p:=⟨gb273,2,none⟩) (Kd.R_far (p:=⟨gb273,1,none⟩) (Kd.R_far (p:=⟨gb273,0,none⟩) (Kd.R_types HO264.out BK273.out (by decide)) (fun _ hk=>hk.2) (.int .i64 t267)) (fun _ hk=>hk.2) (.int .i64 t268)) (fun _ hk=>hk.2) (.slice Ao33 t269.length co33)) (fun _ h_=>h_.1))) (rs ho0) hb);have n2_:=A_ (re (by (with_reducible repeat (first|apply ra|apply rb|apply rc));exact (rm (Kd.R_far (p:=⟨gb273,2,none⟩) (Kd.R_far (p:=⟨gb273,1,none⟩) (Kd.R_far (p:=⟨gb273,0,none⟩) (Kd.R_types HO271.out BK273.out (by decide)) (fun _ hk=>hk.2) (.int .i64 t267)) (fun _ hk=>hk.2) (.int .i64 t268)) (fun _ hk=>hk.2) (.slice Ao33 t269.length co33)) (fun _ h_=>h_.1))) (rs ho0) hb);have n3_:=A_ (Kd.R_lower (rn (rn (rn ho0 (rl (by (with_reducible repeat (first|apply ra|apply rb|apply rc));exact (rm (Kd.R_far (p:=⟨gb273,2,none⟩) (Kd.R_far (p:=⟨gb273,1,none⟩) (Kd.R_far (p:=⟨gb273,0,none⟩) (Kd.R_types HO255.out BK273.out (by decide)) (fun _ hk=>hk.2) (.int .i64 t267)) (fun _ hk=>hk.2) (.int .i64 t268)) (fun _ hk=>hk.2) (.slice Ao33 t269.length co33)) (fun _ h_=>h_.1))))) (rl (by (with_reducible repeat (first|apply ra|apply rb|apply rc));exact (rm (Kd.R_far (p:=⟨gb273,2,none⟩) (Kd.R_far (p:=⟨gb273,1,none⟩) (Kd.R_far (p:=⟨gb273,0,none⟩) (Kd.R_types HO264.out BK273.out (by decide)) (fun _ hk=>hk.2) (.int .i64 t267)) (fun _ hk=>hk.2) (.int .i64 t268)) (fun _ hk=>hk.2) (.slice Ao33 t269.length co33)) (fun _ h_=>h_.1))))) (rl (by (with_reducible repeat (first|apply ra|apply rb|apply rc));exact (rm (Kd.R_far (p:=⟨gb273,2,none⟩) (Kd.R_far (p:=⟨gb273,1,none⟩) (Kd.R_far (p:=⟨gb273,0,none⟩) (Kd.R_types HO271.out BK273.out (by decide)) (fun _ hk=>hk.2) (.int .i64 t267)) (fun _ hk=>hk.2) (.int .i64 t268)) (fun _ hk=>hk.2) (.slice Ao33 t269.length co33)) (fun _ h_=>h_.1))))) (below_size (by repeat (first|(with_reducible first|exact HB.out|apply ba|apply bb|apply bc|refine below_set ?_ (IsS57.ge HI250.out)|refine below_set ?_ GE257.out|refine below_set ?_ GE266.out|refine below_set ?_ GE273.out)|exact HB.out))));have n4_:=A_ (IsS57.below (show IsS57 w (((w28.setCell ⟨gb273,0,none⟩ (.int .i64 t267)).setCell ⟨gb273,1,none⟩ (.int .i64 t268)).setCell ⟨gb273,2,none⟩ (.slice Ao33 t269.length co33)) g250 t248 t256 from by repeat (first|(with_reducible first|exact HI250.out|apply IsS57.alloc|apply IsS57.drewN|apply IsS57.drew|apply IsS57.set_1|refine IsS57.far ?_ NB250_257.out _|refine IsS57.far ?_ NB250_266.out _|refine IsS57.far ?_ NB250_273.out _)|exact HI250.out)) hb);have n5_:=A_ (blk_below (g:=gb257) (o:=.cells #[.int .i64 t251,.int .i64 t252,.slice Ao19 t253.length co19] 24 (0,0)) (by (with_reducible repeat (first|refine blk_drewN ?_ _|refine blk_drew ?_|refine blk_alloc ?_ _));refine blk_far ?_ NB257_273.out _;(with_reducible repeat (first|refine blk_drewN ?_ _|refine blk_drew ?_|refine blk_alloc ?_ _));refine blk_far ?_ NB257_273.out _;(with_reducible repeat (first|refine blk_drewN ?_ _|refine blk_drew ?_|refine blk_alloc ?_ _));refine blk_far ?_ NB257_273.out _;(with_reducible repeat (first|refine blk_drewN ?_ _|refine blk_drew ?_|refine blk_alloc ?_ _));exact BK257.out) hb);have n6_:=A_ (blk_below (g:=gb266) (o:=.cells #[.int .i64 t260,.int .i64 t261,.slice Ao25 t262.length co25] 24 (0,0)) (by (with_reducible repeat (first|refine blk_drewN ?_ _|refine blk_drew ?_|refine blk_alloc ?_ _));refine blk_far ?_ NB266_273.out _;(with_reducible repeat (first|refine blk_drewN ?_ _|refine blk_drew ?_|refine blk_alloc ?_ _));refine blk_far ?_ NB266_273.out _;(with_reducible repeat (first|refine blk_drewN ?_ _|refine blk_drew ?_|refine blk_alloc ?_ _));refine blk_far ?_ NB266_273.out _;(with_reducible repeat (first|refine blk_drewN ?_ _|refine blk_drew ?_|refine blk_alloc ?_ _));exact BK266.out) hb);have n7_:=A_ (blk_below (g:=gb273) (o:=.cells #[.int .i64 t267,.int .i64 t268,.slice Ao33 t269.length co33] 24 (0,0)) (by (with_reducible repeat (first|refine blk_drewN ?_ _|refine blk_drew ?_|refine blk_alloc ?_ _));refine blk_put (cs:=#[.int .i64 t267,.int .i64 t268,.slice none 0 0]) ?_ 2 _ rfl;(with_reducible repeat (first|refine blk_drewN ?_ _|refine blk_drew ?_|refine blk_alloc ?_ _));refine blk_put (cs:=#[.int .i64 t267,.int .i64 0,.slice none 0 0]) ?_ 1 _ rfl;(with_reducible repeat (first|refine blk_drewN ?_ _|refine blk_drew ?_|refine blk_alloc ?_ _));refine blk_put (cs:=#[.int .i64 0,.int .i64 0,.slice none 0 0]) ?_ 0 _ rfl;(with_reducible repeat (first|refine blk_drewN ?_ _|refine blk_drew ?_|refine blk_alloc ?_ _));exact BK273.out) hb);have n8_:=A_ (below_step (by repeat (first|(with_reducible first|exact HB.out|apply ba|apply bb|apply bc|refine below_set ?_ (IsS57.ge HI250.out)|refine below_set ?_ GE257.out|refine below_set ?_ GE266.out|refine below_set ?_ GE273.out)|exact HB.out)) hb);clear HO255;clear HO264;clear HO271;clear HI250;clear BK257;clear BK266;clear BK273;clear HB;have HO255:=n0_;have HO264:=n1_;have HO271:=n2_;have HO278:=n3_;have HI250:=n4_;have BK257:=n5_;have BK266:=n6_;have BK273:=n7_;have HB:=n8_;clear n0_ n1_ n2_ n3_ n4_ n5_ n6_ n7_ n8_;(try clear hb);(try clear hb2);(try clear hk);(try clear hi);(try clear ho0))|((with_reducible refine gate_dst (N:=16) rfl ?_);(try (refine gate_guard (by rfl) ?_;dsimp only));refine box_event ?hg (N:=16) ?hd (cs:=#[.int .i64 0,.int .i64 0,.slice none 0 0]) (t:=24) ?hr ?_;(case hd=>rfl);(case hg=>rfl);(case hr=>first|(go_simp;done)|(go_simp;rfl));intro gb280 hg w36 hbox hb;have n0_:=A_ (rw_ (by (with_reducible repeat (first|apply ra|apply rb|apply rc));exact HO255.out) hb);have n1_:=A_ (rw_ (by (with_reducible repeat (first|apply ra|apply rb|apply rc));exact HO264.out) hb);have n2_:=A_ (rw_ (by (with_reducible repeat (first|apply ra|apply rb|apply rc));exact HO271.out) hb);have n3_:=A_ (rw_ (by (with_reducible repeat (first|apply ra|apply rb|apply rc));exact HO278.out) hb);have n4_:=A_ (IsS57.below (by repeat (first|(with_reducible first|exact HI250.out|apply IsS57.alloc|apply IsS57.drewN|apply IsS57.drew|apply IsS57.set_1|refine IsS57.far ?_ NB250_257.out _|refine IsS57.far ?_ NB250_266.out _|refine IsS57.far ?_ NB250_273.out _)|exact HI250.out)) hb);have n5_:=A_ (blk_below (g:=gb257) (o:=.cells #[.int .i64 t251,.int .i64 t252,.slice Ao19 t253.length co19] 24 (0,0)) (by (with_reducible repeat (first|refine blk_drewN ?_ _|refine blk_drew ?_|refine blk_alloc ?_ _));exact BK257.out) hb);have n6_:=A_ (blk_below (g:=gb266) (o:=.cells #[.int .i64 t260,.int .i64 t261,.slice Ao25 t262.length co25] 24 (0,0)) (by (with_reducible repeat (first|refine blk_drewN ?_ _|refine blk_drew ?_|refine blk_alloc ?_ _));exact BK266.out) hb);have n7_:=A_ (blk_below (g:=gb273) (o:=.cells #[.int .i64 t267,.int .i64 t268,.slice Ao33 t269.length co33] 24 (0,0)) (by (with_reducible repeat (first|refine blk_drewN ?_ _|refine blk_drew ?_|refine blk_alloc ?_ _));exact BK273.out) hb);have n8_:=A_ (below_step (by repeat (first|(with_reducible first|exact HB.out|apply ba|apply bb|apply bc|refine below_set ?_ (IsS57.ge HI250.out)|refine below_set ?_ GE257.out|refine below_set ?_ GE266.out|refine below_set ?_ GE273.out)|exact HB.out)) hb);have n9_:=A_ (hbox);have n10_:=A_ ((by rw [hg];exact (below_size (by repeat (first|(with_reducible first|exact HB.out|apply ba|apply bb|apply bc|refine below_set ?_ (IsS57.ge HI250.out)|refine below_set ?_ GE257.out|refine below_set ?_ GE266.out|refine below_set ?_ GE273.out)|exact HB.out))) : w.heap.size ≤ gb280));have n11_:=A_ ((by rw [hg];exact (below_size (by repeat (first|(with_reducible first|exact HB.out|apply ba|apply bb|apply bc|refine below_set ?_ (IsS57.ge HI250.out)|refine below_set ?_ GE257.out|refine below_set ?_ GE266.out|refine below_set ?_ GE273.out)|exact HB.out))) : w.heap.size ≤ gb280));have n12_:=A_ ((by rw [hg];exact Nat.ne_of_lt (blk_lt (g:=gb257) (o:=.cells #[.int .i64 t251,.int .i64 t252,.slice Ao19 t253.length co19] 24 (0,0)) (by (with_reducible repeat (first|refine blk_drewN ?_ _|refine blk_drew ?_|refine blk_alloc ?_ _));exact BK257.out)) : gb257≠gb280));have n13_:=A_ ((by rw [hg];exact Nat.ne_of_gt (blk_lt (g:=gb257) (o:=.cells #[.int .i64 t251,.int .i64 t252,.slice Ao19 t253.length co19] 24 (0,0)) (by (with_reducible repeat (first|refine blk_drewN ?_ _|refine blk_drew ?_|refine blk_alloc ?_ _));exact BK257.out)) : gb280≠gb257));have n14_:=A_ ((by rw [hg];exact Nat.ne_of_lt (blk_lt (g:=gb266) (o:=.cells #[.int .i64 t260,.int .i64 t261,.slice Ao25 t262.length co25] 24 (0,0)) (by (with_reducible repeat (first|refine blk_drewN ?_ _|refine blk_drew ?_|refine blk_alloc ?_ _));exact BK266.out)) : gb266≠gb280));have n15_:=A_ ((by rw [hg];exact Nat.ne_of_gt (blk_lt (g:=gb266) (o:=.cells #[.int .i64 t260,.int .i64 t261,.slice Ao25 t262.length co25] 24 (0,0)) (by (with_reducible repeat (first|refine blk_drewN ?_ _|refine blk_drew ?_|refine blk_alloc ?_ _));exact BK266.out)) : gb280≠gb266));have n16_:=A_ ((by rw [hg];exact Nat.ne_of_lt (blk_lt (g:=gb273) (o:=.cells #[.int .i64 t267,.int .i64 t268,.slice Ao33 t269.length co33] 24 (0,0)) (by (with_reducible repeat (first|refine blk_drewN ?_ _|refine blk_drew ?_|refine blk_alloc ?_ _));exact BK273.out)) : gb273≠gb280));have n17_:=A_ ((by rw [hg];exact Nat.ne_of_gt (blk_lt (g:=gb273) (o:=.cells #[.int .i64 t267,.int .i64 t268,.slice Ao33 t269.length co33] 24 (0,0)) (by (with_reducible repeat (first|refine blk_drewN ?_ _|refine blk_drew ?_|refine blk_alloc ?_ _));exact BK273.out)) : gb280≠gb273));have n18_:=A_ ((by rw [hg];exact Nat.ne_of_lt (IsS57.lt (show IsS57 w _ g250 t248 t256 from by repeat (first|(with_reducible first|exact HI250.out|apply IsS57.alloc|apply IsS57.drewN|apply IsS57.drew|apply IsS57.set_1|refine IsS57.far ?_ NB250_257.out _|refine IsS57.far ?_ NB250_266.out _|refine IsS57.far ?_ NB250_273.out _)|exact HI250.out))) : g250≠gb280));have n19_:=A_ ((by rw [hg];exact Nat.ne_of_gt (IsS57.lt (show IsS57 w _ g250 t248 t256 from by repeat (first|(with_reducible first|exact HI250.out|apply IsS57.alloc|apply IsS57.drewN|apply IsS57.drew|apply IsS57.set_1|refine IsS57.far ?_ NB250_257.out _|refine IsS57.far ?_ NB250_266.out _|refine IsS57.far ?_ NB250_273.out _)|exact HI250.out))) : gb280≠g250));clear HO255;clear HO264;clear HO271;clear HO278;clear HI250;clear BK257;clear BK266;clear BK273;clear HB;have HO255:=n0_;have HO264:=n1_;have HO271:=n2_;have HO278:=n3_;have HI250:=n4_;have BK257:=n5_;have BK266:=n6_;have BK273:=n7_;have HB:=n8_;have BK280:=n9_;have GW280:=n10_;have GE280:=n11_;have NB257_280:=n12_;have NB280_257:=n13_;have NB266_280:=n14_;have NB280_266:=n15_;have NB273_280:=n16_;have NB280_273:=n17_;have NB250_280:=n18_;have NB280_250:=n19_;clear n0_ n1_ n2_ n3_ n4_ n5_ n6_ n7_ n8_ n9_ n10_ n11_ n12_ n13_ n14_ n15_ n16_ n17_ n18_ n19_;clear hb hbox hg;have hnb37:=NB280_257.out;have hnc37:=NB257_280.out;have hnb38:=NB280_266.out;have hnc38:=NB266_280.out;have hnb39:=NB280_273.out;have hnc39:=NB273_280.out;have hnb40:=NB280_250.out;have hnc40:=NB250_280.out;have hcz41_0 : w36.cell? ⟨gb280,0,none⟩ = some (.int .i64 0):=(blk_cell BK280.out 0).trans rfl;have hcz41_1 : w36.cell? ⟨gb280,1,none⟩ = some (.int .i64 0):=(blk_cell BK280.out 1).trans rfl;have hcz41_2 : w36.cell? ⟨gb280,2,none⟩ = some (.slice none 0 0):=(blk_cell BK280.out 2).trans rfl;have hfz41_0:=blk_frozen BK280.out 0;have hfz41_1:=blk_frozen BK280.out 1;have hfz41_2:=blk_frozen BK280.out 2;obtain ⟨Ao42,co42,eo42⟩:=Kd.R_slice HO278.out;subst eo42;have hcz43_0 : w36.cell? ⟨gb257,0,none⟩ = some (.int .i64 t251):=(blk_cell BK257.out 0).trans rfl;have hcz43_1 : w36.cell? ⟨gb257,1,none⟩ = some (.int .i64 t252):=(blk_cell BK257.out 1).trans rfl;have hcz43_2 : w36.cell? ⟨gb257,2,none⟩ = some (.slice Ao19 t253.length co19):=(blk_cell BK257.out 2).trans rfl;have hfz43_0:=blk_frozen BK257.out 0;have hfz43_1:=blk_frozen BK257.out 1;have hfz43_2:=blk_frozen BK257.out 2)|((with_reducible refine gate_callee (f:=18) rfl ?_);refine goesL_ (some 68) rfl rfl Try.func18 (by kernel_rfl) rfl #[.agg #[.int .i64 t251,.int .i64 t252,.slice Ao19 t253.length co19],.int .i64 0,.int .i64 (wrap64 (t258 + t259))] rfl (by (try simp only [List.map_toArray,List.map_cons,List.map_nil]);first|done|rfl|(simp only [List.length_drop,List.length_take];rfl)) ?_;(with_reducible refine (series_Cut.calls k t251 t252 _ _ t253 0 (wrap64 (t258 + t259)) t281 t282 t283 t286 _ ?side1 ?side2 A12.out).mono ?_);(case side1=>refine (rd_ (e:=3) (base:=w.heap.size) (ok:=fun k_=>(((True∧nb k_ (.slice Ao25 t262.length co25))∧nb k_ (.slice Ao33 t269.length co33))∧nb k_ (.slice Ao42 t276.length co42))) (n:=t253.length) (c:=co19) ?_).2.2;exact (by (with_reducible repeat (first|apply ra|apply rb|apply rc));exact (rm (Kd.R_far (p:=⟨gb280,2,none⟩) (Kd.R_far (p:=⟨gb280,1,none⟩) (Kd.R_far (p:=⟨gb280,0,none⟩) (Kd.R_types HO255.out BK280.out (by decide)) (fun _ hk=>hk.2) (.int .i64 t274)) (fun _ hk=>hk.2) (.int .i64 t275)) (fun _ hk=>hk.2) (.slice Ao42 t276.length co42)) (fun _ h_=>h_.1))));(case side2=>exact (rd_ HO255.out).2.1);rintro e w44 ⟨v284,rfl,ho0,hb⟩;refine ⟨_,rfl,?_⟩;have n0_:=A_ (re (by (with_reducible repeat (first|apply ra|apply rb|apply rc));exact (rm (Kd.R_far (p:=⟨gb280,2,none⟩) (Kd.R_far (p:=⟨gb280,1,none⟩) (Kd.R_far (p:=⟨gb280,0,none⟩) (Kd.R_types HO255.out BK280.out (by decide)) (fun _ hk=>hk.2) (.int .i64 t274)) (fun _ hk=>hk.2) (.int .i64 t275)) (fun _ hk=>hk.2) (.slice Ao42 t276.length co42)) (fun _ h_=>h_.1))) (rs ho0) hb);have n1_:=A_ (re (by (with_reducible repeat (first|apply ra|apply rb|apply rc));exact (rm (Kd.R_far (p:=⟨gb280,2,none⟩) (Kd.R_far (p:=⟨gb280,1,none⟩) (Kd.R_far (p:=⟨gb280,0,none⟩) (Kd.R_types HO264.out BK280.out (by decide)) (fun _ hk=>hk.2) (.int .i64 t274)) (fun _ hk=>hk.2) (.int .i64 t275)) (fun _ hk=>hk.2) (.slice Ao42 t276.length co42)) (fun _ h_=>h_.1))) (rs ho0) hb);have n2_:=A_ (re (by (with_reducible repeat (first|apply ra|apply rb|apply rc));exact (rm (Kd.R_far (p:=⟨gb280,2,none⟩) (Kd.R_far (p:=⟨gb280,1,none⟩) (Kd.R_far (p:=⟨gb280,0,none⟩) (Kd.R_types HO271.out BK280.out (by decide)) (fun _ hk=>hk.2) (.int .i64 t274)) (fun _ hk=>hk.2) (.int .i64 t275)) (fun _ hk=>hk.2) (.slice Ao42 t276.length co42)) (fun _ h_=>h_.1))) (rs ho0) hb);have n3_:=A_ (re (by (with_reducible repeat (first|apply ra|apply rb|apply rc));exact (rm (Kd.R_far (p:=⟨gb280,2,none⟩) (Kd.R_far (p:=⟨gb280,1,none⟩) (Kd.R_far (p:=⟨gb280,0,none⟩) (Kd.R_types HO278.out BK280.out (by decide)) (fun _ hk=>hk.2) (.int .i64 t274)) (fun _ hk=>hk.2) (.int .i64 t275)) (fun _ hk=>hk.2) (.slice Ao42 t276.length co42)) (fun _ h_=>h_.1))) (rs ho0) hb);have n4_:=A_ (Kd.R_lower (rn (rn (rn (rn ho0 (rl (by (with_reducible repeat (first|apply ra|apply rb|apply rc));exact (rm (Kd.R_far (p:=⟨gb280,2,none⟩) (Kd.R_far (p:=⟨gb280,1,none⟩) (Kd.R_far (p:=⟨gb280,0,none⟩) (Kd.R_types HO255.out BK280.out (by decide)) (fun _ hk=>hk.2) (.int .i64 t274)) (fun _ hk=>hk.2) (.int .i64 t275)) (fun _ hk=>hk.2) (.slice Ao42 t276.length co42)) (fun _ h_=>h_.1))))) (rl (by (with_reducible repeat (first|apply ra|apply rb|apply rc));exact (rm (Kd.R_far (p:=⟨gb280,2,none⟩) (Kd.R_far (p:=⟨gb280,1,none⟩) (Kd.R_far (p:=⟨gb280,0,none⟩) (Kd.R_types HO264.out BK280.out (by decide)) (fun _ hk=>hk.2) (.int .i64 t274)) (fun _ hk=>hk.2) (.int .i64 t275)) (fun _ hk=>hk.2) (.slice Ao42 t276.length co42)) (fun _ h_=>h_.1))))) (rl (by (with_reducible repeat (first|apply ra|apply rb|apply rc));exact (rm (Kd.R_far (p:=⟨gb280,2,none⟩) (Kd.R_far (p:=⟨gb280,1,none⟩) (Kd.R_far (p:=⟨gb280,0,none⟩) (Kd.R_types HO271.out BK280.out (by decide)) (fun _ hk=>hk.2) (.int .i64 t274)) (fun _ hk=>hk.2) (.int .i64 t275)) (fun _ hk=>hk.2) (.slice Ao42 t276.length co42)) (fun _ h_=>h_.1))))) (rl (by (with_reducible repeat (first|apply ra|apply rb|apply rc));exact (rm (Kd.R_far (p:=⟨gb280,2,none⟩) (Kd.R_far (p:=⟨gb280,1,none⟩) (Kd.R_far (p:=⟨gb280,0,none⟩) (Kd.R_types HO278.out BK280.out (by decide)) (fun _ hk=>hk.2) (.int .i64 t274)) (fun _ hk=>hk.2) (.int .i64 t275)) (fun _ hk=>hk.2) (.slice Ao42 t276.length co42)) (fun _ h_=>h_.1))))) (below_size (by repeat (first|(with_reducible first|exact HB.out|apply ba|apply bb|apply bc|refine below_set ?_ (IsS57.ge HI250.out)|refine below_set ?_ GE257.out|refine below_set ?_ GE266.out|refine below_set ?_ GE273.out|refine below_set ?_ GE280.out)|exact HB.out))));have n5_:=A_ (IsS57.below (show IsS57 w (((w36.setCell ⟨gb280,0,none⟩ (.int .i64 t274)).setCell ⟨gb280,1,none⟩ (.int .i64 t275)).setCell ⟨gb280,2,none⟩ (.slice Ao42 t276.length co42)) g250 t248 t256 from by repeat (first|(with_reducible first|exact HI250.out|apply IsS57.alloc|apply IsS57.drewN|apply IsS57.drew|apply IsS57.set_1|refine IsS57.far ?_ NB250_257.out _|refine IsS57.far ?_ NB250_266.out _|refine IsS57.far ?_ NB250_273.out _|refine IsS57.far ?_ NB250_280.out _)|exact HI250.out)) hb);have n6_:=A_ (blk_below (g:=gb257) (o:=.cells #[.int .i64 t251,.int .i64 t252,.slice Ao19 t253.length co19] 24 (0,0)) (by (with_reducible repeat (first|refine blk_drewN ?_ _|refine blk_drew ?_|refine blk_alloc ?_ _));refine blk_far ?_ NB257_280.out _;(with_reducible repeat (first|refine blk_drewN ?_ _|refine blk_drew ?_|refine blk_alloc ?_ _));refine blk_far ?_ NB257_280.out _;(with_reducible repeat (first|refine blk_drewN ?_ _|refine blk_drew ?_|refine blk_alloc ?_ _));refine blk_far ?_ NB257_280.out _;(with_reducible repeat (first|refine blk_drewN ?_ _|refine blk_drew ?_|refine blk_alloc ?_ _));exact BK257.out) hb);have n7_:=A_ (blk_below (g:=gb266) (o:=.cells #[.int .i64 t260,.int .i64 t261,.slice Ao25 t262.length co25] 24 (0,0)) (by (with_reducible repeat (first|refine blk_drewN ?_ _|refine blk_drew ?_|refine blk_alloc ?_ _));refine blk_far ?_ NB266_280.out _;(with_reducible repeat (first|refine blk_drewN ?_ _|refine blk_drew ?_|refine blk_alloc ?_ _));refine blk_far ?_ NB266_280.out _;(with_reducible repeat (first|refine blk_drewN ?_ _|refine blk_drew ?_|refine blk_alloc ?_ _));refine blk_far ?_ NB266_280.out _;(with_reducible repeat (first|refine blk_drewN ?_ _|refine blk_drew ?_|refine blk_alloc ?_ _));exact BK266.out) hb);have n8_:=A_ (blk_below (g:=gb273) (o:=.cells #[.int .i64 t267,.int .i64 t268,.slice Ao33 t269.length co33] 24 (0,0)) (by (with_reducible repeat (first|refine blk_drewN ?_ _|refine blk_drew ?_|refine blk_alloc ?_ _));refine blk_far ?_ NB273_280.out _;(with_reducible repeat (first|refine blk_drewN ?_ _|refine blk_drew ?_|refine blk_alloc ?_ _));refine blk_far ?_ NB273_280.out _;(with_reducible repeat (first|refine blk_drewN ?_ _|refine blk_drew ?_|refine blk_alloc ?_ _));refine blk_far ?_ NB273_280.out _;(with_reducible repeat (first|refine blk_drewN ?_ _|refine blk_drew ?_|refine blk_alloc ?_ _));exact BK273.out) hb);have n9_:=A_ (blk_below (g:=gb280) (o:=.cells #[.int .i64 t274,.int .i64 t275,.slice Ao42 t276.length co42] 24 (0,0)) (by (with_reducible repeat (first|refine blk_drewN ?_ _|refine blk_drew ?_|refine blk_alloc ?_ _));refine blk_put (cs:=#[.int .i64 t274,.int .i64 t275,.slice none 0 0]) ?_ 2 _ rfl;(with_reducible repeat (first|refine blk_drewN ?_ _|refine blk_drew ?_|refine blk_alloc ?_ _));refine blk_put (cs:=#[.int .i64 t274,.int .i64 0,.slice none 0 0]) ?_ 1 _ rfl;(with_reducible repeat (first|refine blk_drewN ?_ _|refine blk_drew ?_|refine blk_alloc ?_ _));refine blk_put (cs:=#[.int .i64 0,.int .i64 0,.slice none 0 0]) ?_ 0 _ rfl;(with_reducible repeat (first|refine blk_drewN ?_ _|refine blk_drew ?_|refine blk_alloc ?_ _));exact BK280.out) hb);have n10_:=A_ (below_step (by repeat (first|(with_reducible first|exact HB.out|apply ba|apply bb|apply bc|refine below_set ?_ (IsS57.ge HI250.out)|refine below_set ?_ GE257.out|refine below_set ?_ GE266.out|refine below_set ?_ GE273.out|refine below_set ?_ GE280.out)|exact HB.out)) hb);clear HO255;clear HO264;clear HO271;clear HO278;clear HI250;clear BK257;clear BK266;clear BK273;clear BK280;clear HB;have HO255:=n0_;have HO264:=n1_;have HO271:=n2_;have HO278:=n3_;have HO285:=n4_;have HI250:=n5_;have BK257:=n6_;have BK266:=n7_;have BK273:=n8_;have BK280:=n9_;have HB:=n10_;clear n0_ n1_ n2_ n3_ n4_ n5_ n6_ n7_ n8_ n9_ n10_;(try clear hb);(try clear hb2);(try clear hk);(try clear hi);(try clear ho0))|((with_reducible refine gate_dst (N:=18) rfl ?_);(try (refine gate_guard (by rfl) ?_;dsimp only));refine box_event ?hg (N:=18) ?hd (cs:=#[.int .i64 0,.int .i64 0,.slice none 0 0]) (t:=24) ?hr ?_;(case hd=>rfl);(case hg=>rfl);(case hr=>first|(go_simp;done)|(go_simp;rfl));intro gb287 hg w45 hbox hb;have n0_:=A_ (rw_ (by (with_reducible repeat (first|apply ra|apply rb|apply rc));exact HO255.out) hb);have n1_:=A_ (rw_ (by (with_reducible repeat (first|apply ra|apply rb|apply rc));exact HO264.out) hb);have n2_:=A_ (rw_ (by (with_reducible repeat (first|apply ra|apply rb|apply rc));exact HO271.out) hb);have n3_:=A_ (rw_ (by (with_reducible repeat (first|apply ra|apply rb|apply rc));exact HO278.out) hb);have n4_:=A_ (rw_ (by (with_reducible repeat (first|apply ra|apply rb|apply rc));exact HO285.out) hb);have n5_:=A_ (IsS57.below (by repeat (first|(with_reducible first|exact HI250.out|apply IsS57.alloc|apply IsS57.drewN|apply IsS57.drew|apply IsS57.set_1|refine IsS57.far ?_ NB250_257.out _|refine IsS57.far ?_ NB250_266.out _|refine IsS57.far ?_ NB250_273.out _|refine IsS57.far ?_ NB250_280.out _)|exact HI250.out)) hb);have n6_:=A_ (blk_below (g:=gb257) (o:=.cells #[.int .i64 t251,.int .i64 t252,.slice Ao19 t253.length co19] 24 (0,0)) (by (with_reducible repeat (first|refine blk_drewN ?_ _|refine blk_drew ?_|refine blk_alloc ?_ _));exact BK257.out) hb);have n7_:=A_ (blk_below (g:=gb266) (o:=.cells #[.int .i64 t260,.int .i64 t261,.slice Ao25 t262.length co25] 24 (0,0)) (by (with_reducible repeat (first|refine blk_drewN ?_ _|refine blk_drew ?_|refine blk_alloc ?_ _));exact BK266.out) hb);have n8_:=A_ (blk_below (g:=gb273) (o:=.cells #[.int .i64 t267,.int .i64 t268,.slice Ao33 t269.length co33] 24 (0,0)) (by (with_reducible repeat (first|refine blk_drewN ?_ _|refine blk_drew ?_|refine blk_alloc ?_ _));exact BK273.out) hb);have n9_:=A_ (blk_below (g:=gb280) (o:=.cells #[.int .i64 t274,.int .i64 t275,.slice Ao42 t276.length co42] 24 (0,0)) (by (with_reducible repeat (first|refine blk_drewN ?_ _|refine blk_drew ?_|refine blk_alloc ?_ _));exact BK280.out) hb);have n10_:=A_ (below_step (by repeat (first|(with_reducible first|exact HB.out|apply ba|apply bb|apply bc|refine below_set ?_ (IsS57.ge HI250.out)|refine below_set ?_ GE257.out|refine below_set ?_ GE266.out|refine below_set ?_ GE273.out|refine below_set ?_ GE280.out)|exact HB.out)) hb);have n11_:=A_ (hbox);have n12_:=A_ ((by rw [hg];exact (below_size (by repeat (first|(with_reducible first|exact HB.out|apply ba|apply bb|apply bc|refine below_set ?_ (IsS57.ge HI250.out)|refine below_set ?_ GE257.out|refine below_set ?_ GE266.out|refine below_set ?_ GE273.out|refine below_set ?_ GE280.out)|exact HB.out))) : w.heap.size ≤ gb287));have n13_:=A_ ((by rw [hg];exact (below_size (by repeat (first|(with_reducible first|exact HB.out|apply ba|apply bb|apply bc|refine below_set ?_ (IsS57.ge HI250.out)|refine below_set ?_ GE257.out|refine below_set ?_ GE266.out|refine below_set ?_ GE273.out|refine below_set ?_ GE280.out)|exact HB.out))) : w.heap.size ≤ gb287));have n14_:=A_ ((by rw [hg];exact Nat.ne_of_lt (blk_lt (g:=gb257) (o:=.cells #[.int .i64 t251,.int .i64 t252,.slice Ao19 t253.length co19] 24 (0,0)) (by (with_reducible repeat (first|refine blk_drewN ?_ _|refine blk_drew ?_|refine blk_alloc ?_ _));exact BK257.out)) : gb257≠gb287));have n15_:=A_ ((by rw [hg];exact Nat.ne_of_gt (blk_lt (g:=gb257) (o:=.cells #[.int .i64 t251,.int .i64 t252,.slice Ao19 t253.length co19] 24 (0,0)) (by (with_reducible repeat (first|refine blk_drewN ?_ _|refine blk_drew ?_|refine blk_alloc ?_ _));exact BK257.out)) : gb287≠gb257));have n16_:=A_ ((by rw [hg];exact Nat.ne_of_lt (blk_lt (g:=gb266) (o:=.cells #[.int .i64 t260,.int .i64 t261,.slice Ao25 t262.length co25] 24 (0,0)) (by (with_reducible repeat (first|refine blk_drewN ?_ _|refine blk_drew ?_|refine blk_alloc ?_ _));exact BK266.out)) : gb266≠gb287));have n17_:=A_ ((by rw [hg];exact Nat.ne_of_gt (blk_lt (g:=gb266) (o:=.cells #[.int .i64 t260,.int .i64 t261,.slice Ao25 t262.length co25] 24 (0,0)) (by (with_reducible repeat (first|refine blk_drewN ?_ _|refine blk_drew ?_|refine blk_alloc ?_ _));exact BK266.out)) : gb287≠gb266));have n18_:=A_ ((by rw [hg];exact Nat.ne_of_lt (blk_lt (g:=gb273) (o:=.cells #[.int .i64 t267,.int .i64 t268,.slice Ao33 t269.length co33] 24 (0,0)) (by (with_reducible repeat (first|refine blk_drewN ?_ _|refine blk_drew ?_|refine blk_alloc ?_ _));exact BK273.out)) : gb273≠gb287));have n19_:=A_ ((by rw [hg];exact Nat.ne_of_gt (blk_lt (g:=gb273) (o:=.cells #[.int .i64 t267,.int .i64 t268,.slice Ao33 t269.length co33] 24 (0,0)) (by (with_reducible repeat (first|refine blk_drewN ?_ _|refine blk_drew ?_|refine blk_alloc ?_ _));exact BK273.out)) : gb287≠gb273));have n20_:=A_ ((by rw [hg];exact Nat.ne_of_lt (blk_lt (g:=gb280) (o:=.cells #[.int .i64 t274,.int .i64 t275,.slice Ao42 t276.length co42] 24 (0,0)) (by (with_reducible repeat (first|refine blk_drewN ?_ _|refine blk_drew ?_|refine blk_alloc ?_ _));exact BK280.out)) : gb280≠gb287));have n21_:=A_ ((by rw [hg];exact Nat.ne_of_gt (blk_lt (g:=gb280) (o:=.cells #[.int .i64 t274,.int .i64 t275,.slice Ao42 t276.length co42] 24 (0,0)) (by (with_reducible repeat (first|refine blk_drewN ?_ _|refine blk_drew ?_|refine blk_alloc ?_ _));exact BK280.out)) : gb287≠gb280));have n22_:=A_ ((by rw [hg];exact Nat.ne_of_lt (IsS57.lt (show IsS57 w _ g250 t248 t256 from by repeat (first|(with_reducible first|exact HI250.out|apply IsS57.alloc|apply IsS57.drewN|apply IsS57.drew|apply IsS57.set_1|refine IsS57.far ?_ NB250_257.out _|refine IsS57.far ?_ NB250_266.out _|refine IsS57.far ?_ NB250_273.out _|refine IsS57.far ?_ NB250_280.out _)|exact HI250.out))) : g250≠gb287));have n23_:=A_ ((by rw [hg];exact Nat.ne_of_gt (IsS57.lt (show IsS57 w _ g250 t248 t256 from by repeat (first|(with_reducible first|exact HI250.out|apply IsS57.alloc|apply IsS57.drewN|apply IsS57.drew|apply IsS57.set_1|refine IsS57.far ?_ NB250_257.out _|refine IsS57.far ?_ NB250_266.out _|refine IsS57.far ?_ NB250_273.out _|refine IsS57.far ?_ NB250_280.out _)|exact HI250.out))) : gb287≠g250));clear HO255;clear HO264;clear HO271;clear HO278;clear HO285;clear HI250;clear BK257;clear BK266;clear BK273;clear BK280;clear HB;have HO255:=n0_;have HO264:=n1_;have HO271:=n2_;have HO278:=n3_;have HO285:=n4_;have HI250:=n5_;have BK257:=n6_;have BK266:=n7_;have BK273:=n8_;have BK280:=n9_;have HB:=n10_;have BK287:=n11_;have GW287:=n12_;have GE287:=n13_;have NB257_287:=n14_;have NB287_257:=n15_;have NB266_287:=n16_;have NB287_266:=n17_;have NB273_287:=n18_;have NB287_273:=n19_;have NB280_287:=n20_;have NB287_280:=n21_;have NB250_287:=n22_;have NB287_250:=n23_;clear n0_ n1_ n2_ n3_ n4_ n5_ n6_ n7_ n8_ n9_ n10_ n11_ n12_ n13_ n14_ n15_ n16_ n17_ n18_ n19_ n20_ n21_ n22_ n23_;clear hb hbox hg;have hnb46:=NB287_257.out;have hnc46:=NB257_287.out;have hnb47:=NB287_266.out;have hnc47:=NB266_287.out;have hnb48:=NB287_273.out;have hnc48:=NB273_287.out;have hnb49:=NB287_280.out;have hnc49:=NB280_287.out;have hnb50:=NB287_250.out;have hnc50:=NB250_287.out;have hcz51_0 : w45.cell? ⟨gb287,0,none⟩ = some (.int .i64 0):=(blk_cell BK287.out 0).trans rfl;have hcz51_1 : w45.cell? ⟨gb287,1,none⟩ = some (.int .i64 0):=(blk_cell BK287.out 1).trans rfl;have hcz51_2 : w45.cell? ⟨gb287,2,none⟩ = some (.slice none 0 0):=(blk_cell BK287.out 2).trans rfl;have hfz51_0:=blk_frozen BK287.out 0;have hfz51_1:=blk_frozen BK287.out 1;have hfz51_2:=blk_frozen BK287.out 2;obtain ⟨Ao52,co52,eo52⟩:=Kd.R_slice HO285.out;subst eo52))
 (try simp only [Act.put,List.setIfInBounds_toArray,List.set_cons_zero,List.set_cons_succ])
 go_cut [90] (fun v90 wc=>∃ (kq : Nat) (x90_12 : Bool),v90 = .bool x90_12∧Aside0 (shapesearchlaw09_SeriesParts.j0 kq a3 t258 t259 x90_12 t251 t252 t253 t260 t261 t262 t267 t268 t269 = some r)∧Aside0 (kq ≤ k)∧Aside0 (Kd.R (Kd.int .i64) 3 wc w.heap.size (fun k_=>some k_≠((.slice Ao25 t262.length co25) : Value).ownBlock∧some k_≠((.slice Ao33 t269.length co33) : Value).ownBlock∧some k_≠((.slice Ao42 t276.length co42) : Value).ownBlock∧some k_≠((.slice Ao52 t283.length co52) : Value).ownBlock) (.slice Ao19 t253.length co19) t253)∧Aside0 (Kd.R (Kd.int .i64) 3 wc w.heap.size (fun k_=>some k_≠((.slice Ao19 t253.length co19) : Value).ownBlock∧some k_≠((.slice Ao33 t269.length co33) : Value).ownBlock∧some k_≠((.slice Ao42 t276.length co42) : Value).ownBlock∧some k_≠((.slice Ao52 t283.length co52) : Value).ownBlock) (.slice Ao25 t262.length co25) t262)∧Aside0 (Kd.R (Kd.int .i64) 3 wc w.heap.size (fun k_=>some k_≠((.slice Ao19 t253.length co19) : Value).ownBlock∧some k_≠((.slice Ao25 t262.length co25) : Value).ownBlock∧some k_≠((.slice Ao42 t276.length co42) : Value).ownBlock∧some k_≠((.slice Ao52 t283.length co52) : Value).ownBlock) (.slice Ao33 t269.length co33) t269)∧Aside0 (Kd.R (Kd.int .i64) 3 wc w.heap.size (fun k_=>some k_≠((.slice Ao19 t253.length co19) : Value).ownBlock∧some k_≠((.slice Ao25 t262.length co25) : Value).ownBlock∧some k_≠((.slice Ao33 t269.length co33) : Value).ownBlock∧some k_≠((.slice Ao52 t283.length co52) : Value).ownBlock) (.slice Ao42 t276.length co42) t276)∧Aside0 (Kd.R (Kd.int .i64) 3 wc w.heap.size (fun k_=>some k_≠((.slice Ao19 t253.length co19) : Value).ownBlock∧some k_≠((.slice Ao25 t262.length co25) : Value).ownBlock∧some k_≠((.slice Ao33 t269.length co33) : Value).ownBlock∧some k_≠((.slice Ao42 t276.length co42) : Value).ownBlock) (.slice Ao52 t283.length co52) t283)∧Aside0 (wc.heap[gb257]? = some (.cells #[.int .i64 t251,.int .i64 t252,(.slice Ao19 t253.length co19)] 24 (0,0)))∧Aside0 (wc.heap[gb266]? = some (.cells #[.int .i64 t260,.int .i64 t261,(.slice Ao25 t262.length co25)] 24 (0,0)))∧Aside0 (wc.heap[gb273]? = some (.cells #[.int .i64 t267,.int .i64 t268,(.slice Ao33 t269.length co33)] 24 (0,0)))∧Aside0 (wc.heap[gb280]? = some (.cells #[.int .i64 t274,.int .i64 t275,(.slice Ao42 t276.length co42)] 24 (0,0)))∧Aside0 (wc.heap[gb287]? = some (.cells #[.int .i64 t281,.int .i64 t282,(.slice Ao52 t283.length co52)] 24 (0,0)))∧Aside0 (Below w.heap.size w wc))
 case first =>
  have H:=HC13.out
  clear HC13
  by_cases c53 : t265 = 0
  ·
   rw [if_pos c53] at H
   have c53b0 : (t265 == 0) = true:=beq_iff_eq.mpr c53
   have c53b1 : (t265 != 0) = false:=bne_eq_false_iff_eq.mpr c53
   clear c53
   (first|rw [c53b0]|(simp only [i64_w,i32_w];rw [c53b0])|skip)
   by_cases c54 : t272 = 0
   ·
    rw [if_pos c54] at H
    have c54b0 : (t272 == 0) = true:=beq_iff_eq.mpr c54
    have c54b1 : (t272 != 0) = false:=bne_eq_false_iff_eq.mpr c54
    clear c54
    by_cases c55 : t279 = 0
    ·
     rw [if_pos c55] at H
     have c55b0 : (t279 == 0) = true:=beq_iff_eq.mpr c55
     have c55b1 : (t279 != 0) = false:=bne_eq_false_iff_eq.mpr c55
     clear c55
     by_cases c56 : t286 = 0
     ·
      rw [if_pos c56] at H
      have c56b0 : (t286 == 0) = true:=beq_iff_eq.mpr c56
      have c56b1 : (t286 != 0) = false:=bne_eq_false_iff_eq.mpr c56
      clear c56
      replace H:=Option.bind_eq_some_iff.mp H
      obtain ⟨t288,A570,H⟩:=H
      replace H : (shapesearchlaw09_SeriesParts.j0 k a3 t258 t259 (!t288) t251 t252 t253 t260 t261 t262 t267 t268 t269) = some r:=H
      have A57:=A_ A570
      clear A570
      have H':=A_ H
      clear H
      have hnb58:=NB280_257.out
      have hnc58:=NB257_280.out
      have hnb59:=NB280_266.out
      have hnc59:=NB266_280.out
      have hnb60:=NB280_273.out
      have hnc60:=NB273_280.out
      have hnb61:=NB280_287.out
      have hnc61:=NB287_280.out
      have hnb62:=NB280_250.out
      have hnc62:=NB250_280.out
      have hcz63_0 : w45.cell? ⟨gb280,0,none⟩ = some (.int .i64 t274):=(blk_cell BK280.out 0).trans rfl
      have hcz63_1 : w45.cell? ⟨gb280,1,none⟩ = some (.int .i64 t275):=(blk_cell BK280.out 1).trans rfl
      have hcz63_2 : w45.cell? ⟨gb280,2,none⟩ = some (.slice Ao42 t276.length co42):=(blk_cell BK280.out 2).trans rfl
      have hfz63_0:=blk_frozen BK280.out 0
      have hfz63_1:=blk_frozen BK280.out 1
      have hfz63_2:=blk_frozen BK280.out 2
      have hnb64:=NB287_257.out
      have hnc64:=NB257_287.out
      have hnb65:=NB287_266.out
      have hnc65:=NB266_287.out
      have hnb66:=NB287_273.out
      have hnc66:=NB273_287.out
      have hnb67:=NB287_250.out
      have hnc67:=NB250_287.out
      have hcz68_0 : w45.cell? ⟨gb287,0,none⟩ = some (.int .i64 0):=(blk_cell BK287.out 0).trans rfl
      have hcz68_1 : w45.cell? ⟨gb287,1,none⟩ = some (.int .i64 0):=(blk_cell BK287.out 1).trans rfl
      have hcz68_2 : w45.cell? ⟨gb287,2,none⟩ = some (.slice none 0 0):=(blk_cell BK287.out 2).trans rfl
      have hfz68_0:=blk_frozen BK287.out 0
      have hfz68_1:=blk_frozen BK287.out 1
      have hfz68_2:=blk_frozen BK287.out 2
      go_wp2_with (first|(go_at_call 21;(with_reducible refine (shapesearchref09_Same.calls k t274 t275 _ _ t276 t281 t282 _ _ t283 t288 _ ?side1 ?side2 ?side3 ?side4 A57.out).mono ?_);(case side1=>refine (rd_ (e:=3) (base:=w.heap.size) (ok:=fun k_=>((((True∧nb k_ (.slice Ao19 t253.length co19))∧nb k_ (.slice Ao25 t262.length co25))∧nb k_ (.slice Ao33 t269.length co33))∧nb k_ (.slice Ao52 t283.length co52))) (n:=t276.length) (c:=co42) ?_).2.2;exact (by (with_reducible repeat (first|apply ra|apply rb|apply rc));exact (rm (Kd.R_far (p:=⟨gb287,2,none⟩) (Kd.R_far (p:=⟨gb287,1,none⟩) (Kd.R_far (p:=⟨gb287,0,none⟩) (Kd.R_types HO278.out BK287.out (by decide)) (fun _ hk=>hk.2) (.int .i64 t281)) (fun _ hk=>hk.2) (.int .i64 t282)) (fun _ hk=>hk.2) (.slice Ao52 t283.length co52)) (fun _ h_=>h_.1))));(case side2=>exact (rd_ HO278.out).2.1);(case side3=>refine (rd_ (e:=3) (base:=w.heap.size) (ok:=fun k_=>((((True∧nb k_ (.slice Ao19 t253.length co19))∧nb k_ (.slice Ao25 t262.length co25))∧nb k_ (.slice Ao33 t269.length co33))∧nb k_ (.slice Ao42 t276.length co42))) (n:=t283.length) (c:=co52) ?_).2.2;exact (by (with_reducible repeat (first|apply ra|apply rb|apply rc));exact (rm (Kd.R_far (p:=⟨gb287,2,none⟩) (Kd.R_far (p:=⟨gb287,1,none⟩) (Kd.R_far (p:=⟨gb287,0,none⟩) (Kd.R_types HO285.out BK287.out (by decide)) (fun _ hk=>hk.2) (.int .i64 t281)) (fun _ hk=>hk.2) (.int .i64 t282)) (fun _ hk=>hk.2) (.slice Ao52 t283.length co52)) (fun _ h_=>h_.1))));(case side4=>exact (rd_ HO285.out).2.1);rintro e w69 ⟨rfl,hb⟩;have n0_:=A_ (rw_ (by (with_reducible repeat (first|apply ra|apply rb|apply rc));exact (rm (Kd.R_far (p:=⟨gb287,2,none⟩) (Kd.R_far (p:=⟨gb287,1,none⟩) (Kd.R_far (p:=⟨gb287,0,none⟩) (Kd.R_types HO255.out BK287.out (by decide)) (fun _ hk=>hk.2) (.int .i64 t281)) (fun _ hk=>hk.2) (.int .i64 t282)) (fun _ hk=>hk.2) (.slice Ao52 t283.length co52)) (fun _ h_=>h_.1))) hb);have n1_:=A_ (rw_ (by (with_reducible repeat (first|apply ra|apply rb|apply rc));exact (rm (Kd.R_far (p:=⟨gb287,2,none⟩) (Kd.R_far (p:=⟨gb287,1,none⟩) (Kd.R_far (p:=⟨gb287,0,none⟩) (Kd.R_types HO264.out BK287.out (by decide)) (fun _ hk=>hk.2) (.int .i64 t281)) (fun _ hk=>hk.2) (.int .i64 t282)) (fun _ hk=>hk.2) (.slice Ao52 t283.length co52)) (fun _ h_=>h_.1))) hb);have n2_:=A_ (rw_ (by (with_reducible repeat (first|apply ra|apply rb|apply rc));exact (rm (Kd.R_far (p:=⟨gb287,2,none⟩) (Kd.R_far (p:=⟨gb287,1,none⟩) (Kd.R_far (p:=⟨gb287,0,none⟩) (Kd.R_types HO271.out BK287.out (by decide)) (fun _ hk=>hk.2) (.int .i64 t281)) (fun _ hk=>hk.2) (.int .i64 t282)) (fun _ hk=>hk.2) (.slice Ao52 t283.length co52)) (fun _ h_=>h_.1))) hb);have n3_:=A_ (rw_ (by (with_reducible repeat (first|apply ra|apply rb|apply rc));exact (rm (Kd.R_far (p:=⟨gb287,2,none⟩) (Kd.R_far (p:=⟨gb287,1,none⟩) (Kd.R_far (p:=⟨gb287,0,none⟩) (Kd.R_types HO278.out BK287.out (by decide)) (fun _ hk=>hk.2) (.int .i64 t281)) (fun _ hk=>hk.2) (.int .i64 t282)) (fun _ hk=>hk.2) (.slice Ao52 t283.length co52)) (fun _ h_=>h_.1))) hb);have n4_:=A_ (rw_ (by (with_reducible repeat (first|apply ra|apply rb|apply rc));exact (rm (Kd.R_far (p:=⟨gb287,2,none⟩) (Kd.R_far (p:=⟨gb287,1,none⟩) (Kd.R_far (p:=⟨gb287,0,none⟩) (Kd.R_types HO285.out BK287.out (by decide)) (fun _ hk=>hk.2) (.int .i64 t281)) (fun _ hk=>hk.2) (.int .i64 t282)) (fun _ hk=>hk.2) (.slice Ao52 t283.length co52)) (fun _ h_=>h_.1))) hb);have n5_:=A_ (IsS57.below (show IsS57 w (((w45.setCell ⟨gb287,0,none⟩ (.int .i64 t281)).setCell ⟨gb287,1,none⟩ (.int .i64 t282)).setCell ⟨gb287,2,none⟩ (.slice Ao52 t283.length co52)) g250 t248 t256 from by repeat (first|(with_reducible first|exact HI250.out|apply IsS57.alloc|apply IsS57.drewN|apply IsS57.drew|apply IsS57.set_1|refine IsS57.far ?_ NB250_257.out _|refine IsS57.far ?_ NB250_266.out _|refine IsS57.far ?_ NB250_273.out _|refine IsS57.far ?_ NB250_280.out _|refine IsS57.far ?_ NB250_287.out _)|exact HI250.out)) hb);have n6_:=A_ (blk_below (g:=gb257) (o:=.cells #[.int .i64 t251,.int .i64 t252,.slice Ao19 t253.length co19] 24 (0,0)) (by (with_reducible repeat (first|refine blk_drewN ?_ _|refine blk_drew ?_|refine blk_alloc ?_ _));refine blk_far ?_ NB257_287.out _;(with_reducible repeat (first|refine blk_drewN ?_ _|refine blk_drew ?_|refine blk_alloc ?_ _));refine blk_far ?_ NB257_287.out _;(with_reducible repeat (first|refine blk_drewN ?_ _|refine blk_drew ?_|refine blk_alloc ?_ _));refine blk_far ?_ NB257_287.out _;(with_reducible repeat (first|refine blk_drewN ?_ _|refine blk_drew ?_|refine blk_alloc ?_ _));exact BK257.out) hb);have n7_:=A_ (blk_below (g:=gb266) (o:=.cells #[.int .i64 t260,.int .i64 t261,.slice Ao25 t262.length co25] 24 (0,0)) (by (with_reducible repeat (first|refine blk_drewN ?_ _|refine blk_drew ?_|refine blk_alloc ?_ _));refine blk_far ?_ NB266_287.out _;(with_reducible repeat (first|refine blk_drewN ?_ _|refine blk_drew ?_|refine blk_alloc ?_ _));refine blk_far ?_ NB266_287.out _;(with_reducible repeat (first|refine blk_drewN ?_ _|refine blk_drew ?_|refine blk_alloc ?_ _));refine blk_far ?_ NB266_287.out _;(with_reducible repeat (first|refine blk_drewN ?_ _|refine blk_drew ?_|refine blk_alloc ?_ _));exact BK266.out) hb);have n8_:=A_ (blk_below (g:=gb273) (o:=.cells #[.int .i64 t267,.int .i64 t268,.slice Ao33 t269.length co33] 24 (0,0)) (by (with_reducible repeat (first|refine blk_drewN ?_ _|refine blk_drew ?_|refine blk_alloc ?_ _));refine blk_far ?_ NB273_287.out _;(with_reducible repeat (first|refine blk_drewN ?_ _|refine blk_drew ?_|refine blk_alloc ?_ _));refine blk_far ?_ NB273_287.out _;(with_reducible repeat (first|refine blk_drewN ?_ _|refine blk_drew ?_|refine blk_alloc ?_ _));refine blk_far ?_ NB273_287.out _;(with_reducible repeat (first|refine blk_drewN ?_ _|refine blk_drew ?_|refine blk_alloc ?_ _));exact BK273.out) hb);have n9_:=A_ (blk_below (g:=gb280) (o:=.cells #[.int .i64 t274,.int .i64 t275,.slice Ao42 t276.length co42] 24 (0,0)) (by (with_reducible repeat (first|refine blk_drewN ?_ _|refine blk_drew ?_|refine blk_alloc ?_ _));refine blk_far ?_ NB280_287.out _;(with_reducible repeat (first|refine blk_drewN ?_ _|refine blk_drew ?_|refine blk_alloc ?_ _));refine blk_far ?_ NB280_287.out _;(with_reducible repeat (first|refine blk_drewN ?_ _|refine blk_drew ?_|refine blk_alloc ?_ _));refine blk_far ?_ NB280_287.out _;(with_reducible repeat (first|refine blk_drewN ?_ _|refine blk_drew ?_|refine blk_alloc ?_ _));exact BK280.out) hb);have n10_:=A_ (blk_below (g:=gb287) (o:=.cells #[.int .i64 t281,.int .i64 t282,.slice Ao52 t283.length co52] 24 (0,0)) (by (with_reducible repeat (first|refine blk_drewN ?_ _|refine blk_drew ?_|refine blk_alloc ?_ _));refine blk_put (cs:=#[.int .i64 t281,.int .i64 t282,.slice none 0 0]) ?_ 2 _ rfl;(with_reducible repeat (first|refine blk_drewN ?_ _|refine blk_drew ?_|refine blk_alloc ?_ _));refine blk_put (cs:=#[.int .i64 t281,.int .i64 0,.slice none 0 0]) ?_ 1 _ rfl;(with_reducible repeat (first|refine blk_drewN ?_ _|refine blk_drew ?_|refine blk_alloc ?_ _));refine blk_put (cs:=#[.int .i64 0,.int .i64 0,.slice none 0 0]) ?_ 0 _ rfl;(with_reducible repeat (first|refine blk_drewN ?_ _|refine blk_drew ?_|refine blk_alloc ?_ _));exact BK287.out) hb);have n11_:=A_ (below_step (by repeat (first|(with_reducible first|exact HB.out|apply ba|apply bb|apply bc|refine below_set ?_ (IsS57.ge HI250.out)|refine below_set ?_ GE257.out|refine below_set ?_ GE266.out|refine below_set ?_ GE273.out|refine below_set ?_ GE280.out|refine below_set ?_ GE287.out)|exact HB.out)) hb);clear HO255;clear HO264;clear HO271;clear HO278;clear HO285;clear HI250;clear BK257;clear BK266;clear BK273;clear BK280;clear BK287;clear HB;have HO255:=n0_;have HO264:=n1_;have HO271:=n2_;have HO278:=n3_;have HO285:=n4_;have HI250:=n5_;have BK257:=n6_;have BK266:=n7_;have BK273:=n8_;have BK280:=n9_;have BK287:=n10_;have HB:=n11_;clear n0_ n1_ n2_ n3_ n4_ n5_ n6_ n7_ n8_ n9_ n10_ n11_;(try clear hb);(try clear hb2);(try clear hk);(try clear hi)))
      go_meet
      case rel=>exact ⟨_,(!t288),(by first|rfl|(simp;done)|(simp [*];done)),H',⟨by first|omega|exact Nat.le_refl _⟩,⟨by (with_reducible repeat (first|apply ra|apply rb|apply rc));exact rm HO255.out (fun _ hk=>⟨hk.1.1.1.2,⟨hk.1.1.2,⟨hk.1.2,hk.2⟩⟩⟩)⟩,⟨by (with_reducible repeat (first|apply ra|apply rb|apply rc));exact rm HO264.out (fun _ hk=>⟨hk.1.1.1.2,⟨hk.1.1.2,⟨hk.1.2,hk.2⟩⟩⟩)⟩,⟨by (with_reducible repeat (first|apply ra|apply rb|apply rc));exact rm HO271.out (fun _ hk=>⟨hk.1.1.1.2,⟨hk.1.1.2,⟨hk.1.2,hk.2⟩⟩⟩)⟩,⟨by (with_reducible repeat (first|apply ra|apply rb|apply rc));exact rm HO278.out (fun _ hk=>⟨hk.1.1.1.2,⟨hk.1.1.2,⟨hk.1.2,hk.2⟩⟩⟩)⟩,⟨by (with_reducible repeat (first|apply ra|apply rb|apply rc));exact rm HO285.out (fun _ hk=>⟨hk.1.1.1.2,⟨hk.1.1.2,⟨hk.1.2,hk.2⟩⟩⟩)⟩,⟨by (with_reducible repeat (first|refine blk_drewN ?_ _|refine blk_drew ?_|refine blk_alloc ?_ _));exact BK257.out⟩,⟨by (with_reducible repeat (first|refine blk_drewN ?_ _|refine blk_drew ?_|refine blk_alloc ?_ _));exact BK266.out⟩,⟨by (with_reducible repeat (first|refine blk_drewN ?_ _|refine blk_drew ?_|refine blk_alloc ?_ _));exact BK273.out⟩,⟨by (with_reducible repeat (first|refine blk_drewN ?_ _|refine blk_drew ?_|refine blk_alloc ?_ _));exact BK280.out⟩,⟨by (with_reducible repeat (first|refine blk_drewN ?_ _|refine blk_drew ?_|refine blk_alloc ?_ _));exact BK287.out⟩,⟨by repeat (first|(with_reducible first|exact HB.out|apply ba|apply bb|apply bc|refine below_set ?_ (IsS57.ge HI250.out)|refine below_set ?_ GE257.out|refine below_set ?_ GE266.out|refine below_set ?_ GE273.out|refine below_set ?_ GE280.out|refine below_set ?_ GE287.out)|exact HB.out)⟩⟩
     ·
      rw [if_neg c56] at H
      have c56b0 : (t286 == 0) = false:=beq_eq_false_iff_ne.mpr c56
      have c56b1 : (t286 != 0) = true:=bne_iff_ne.mpr c56
      have H':=A_ H
      clear H
      go_wp2
      go_meet
      case rel=>exact ⟨_,(true),(by first|rfl|(simp;done)|(simp [*];done)),H',⟨by first|omega|exact Nat.le_refl _⟩,⟨by (with_reducible repeat (first|apply ra|apply rb|apply rc));exact rm (Kd.R_far (p:=⟨gb287,2,none⟩) (Kd.R_far (p:=⟨gb287,1,none⟩) (Kd.R_far (p:=⟨gb287,0,none⟩) (Kd.R_types HO255.out BK287.out (by decide)) (fun _ hk=>hk.2) (.int .i64 t281)) (fun _ hk=>hk.2) (.int .i64 t282)) (fun _ hk=>hk.2) (.slice Ao52 t283.length co52)) (fun _ hk=>⟨hk.1.1.1.1.2,⟨hk.1.1.1.2,⟨hk.1.1.2,hk.1.2⟩⟩⟩)⟩,⟨by (with_reducible repeat (first|apply ra|apply rb|apply rc));exact rm (Kd.R_far (p:=⟨gb287,2,none⟩) (Kd.R_far (p:=⟨gb287,1,none⟩) (Kd.R_far (p:=⟨gb287,0,none⟩) (Kd.R_types HO264.out BK287.out (by decide)) (fun _ hk=>hk.2) (.int .i64 t281)) (fun _ hk=>hk.2) (.int .i64 t282)) (fun _ hk=>hk.2) (.slice Ao52 t283.length co52)) (fun _ hk=>⟨hk.1.1.1.1.2,⟨hk.1.1.1.2,⟨hk.1.1.2,hk.1.2⟩⟩⟩)⟩,⟨by (with_reducible repeat (first|apply ra|apply rb|apply rc));exact rm (Kd.R_far (p:=⟨gb287,2,none⟩) (Kd.R_far (p:=⟨gb287,1,none⟩) (Kd.R_far (p:=⟨gb287,0,none⟩) (Kd.R_types HO271.out BK287.out (by decide)) (fun _ hk=>hk.2) (.int .i64 t281)) (fun _ hk=>hk.2) (.int .i64 t282)) (fun _ hk=>hk.2) (.slice Ao52 t283.length co52)) (fun _ hk=>⟨hk.1.1.1.1.2,⟨hk.1.1.1.2,⟨hk.1.1.2,hk.1.2⟩⟩⟩)⟩,⟨by (with_reducible repeat (first|apply ra|apply rb|apply rc));exact rm (Kd.R_far (p:=⟨gb287,2,none⟩) (Kd.R_far (p:=⟨gb287,1,none⟩) (Kd.R_far (p:=⟨gb287,0,none⟩) (Kd.R_types HO278.out BK287.out (by decide)) (fun _ hk=>hk.2) (.int .i64 t281)) (fun _ hk=>hk.2) (.int .i64 t282)) (fun _ hk=>hk.2) (.slice Ao52 t283.length co52)) (fun _ hk=>⟨hk.1.1.1.1.2,⟨hk.1.1.1.2,⟨hk.1.1.2,hk.1.2⟩⟩⟩)⟩,⟨by (with_reducible repeat (first|apply ra|apply rb|apply rc));exact rm (Kd.R_far (p:=⟨gb287,2,none⟩) (Kd.R_far (p:=⟨gb287,1,none⟩) (Kd.R_far (p:=⟨gb287,0,none⟩) (Kd.R_types HO285.out BK287.out (by decide)) (fun _ hk=>hk.2) (.int .i64 t281)) (fun _ hk=>hk.2) (.int .i64 t282)) (fun _ hk=>hk.2) (.slice Ao52 t283.length co52)) (fun _ hk=>⟨hk.1.1.1.1.2,⟨hk.1.1.1.2,⟨hk.1.1.2,hk.1.2⟩⟩⟩)⟩,⟨by (with_reducible repeat (first|refine blk_drewN ?_ _|refine blk_drew ?_|refine blk_alloc ?_ _));refine blk_far ?_ NB257_287.out _;(with_reducible repeat (first|refine blk_drewN ?_ _|refine blk_drew ?_|refine blk_alloc ?_ _));refine blk_far ?_ NB257_287.out _;(with_reducible repeat (first|refine blk_drewN ?_ _|refine blk_drew ?_|refine blk_alloc ?_ _));refine blk_far ?_ NB257_287.out _;(with_reducible repeat (first|refine blk_drewN ?_ _|refine blk_drew ?_|refine blk_alloc ?_ _));exact BK257.out⟩,⟨by (with_reducible repeat (first|refine blk_drewN ?_ _|refine blk_drew ?_|refine blk_alloc ?_ _));refine blk_far ?_ NB266_287.out _;(with_reducible repeat (first|refine blk_drewN ?_ _|refine blk_drew ?_|refine blk_alloc ?_ _));refine blk_far ?_ NB266_287.out _;(with_reducible repeat (first|refine blk_drewN ?_ _|refine blk_drew ?_|refine blk_alloc ?_ _));refine blk_far ?_ NB266_287.out _;(with_reducible repeat (first|refine blk_drewN ?_ _|refine blk_drew ?_|refine blk_alloc ?_ _));exact BK266.out⟩,⟨by (with_reducible repeat (first|refine blk_drewN ?_ _|refine blk_drew ?_|refine blk_alloc ?_ _));refine blk_far ?_ NB273_287.out _;(with_reducible repeat (first|refine blk_drewN ?_ _|refine blk_drew ?_|refine blk_alloc ?_ _));refine blk_far ?_ NB273_287.out _;(with_reducible repeat (first|refine blk_drewN ?_ _|refine blk_drew ?_|refine blk_alloc ?_ _));refine blk_far ?_ NB273_287.out _;(with_reducible repeat (first|refine blk_drewN ?_ _|refine blk_drew ?_|refine blk_alloc ?_ _));exact BK273.out⟩,⟨by (with_reducible repeat (first|refine blk_drewN ?_ _|refine blk_drew ?_|refine blk_alloc ?_ _));refine blk_far ?_ NB280_287.out _;(with_reducible repeat (first|refine blk_drewN ?_ _|refine blk_drew ?_|refine blk_alloc ?_ _));refine blk_far ?_ NB280_287.out _;(with_reducible repeat (first|refine blk_drewN ?_ _|refine blk_drew ?_|refine blk_alloc ?_ _));refine blk_far ?_ NB280_287.out _;(with_reducible repeat (first|refine blk_drewN ?_ _|refine blk_drew ?_|refine blk_alloc ?_ _));exact BK280.out⟩,⟨by (with_reducible repeat (first|refine blk_drewN ?_ _|refine blk_drew ?_|refine blk_alloc ?_ _));refine blk_put (cs:=#[.int .i64 t281,.int .i64 t282,.slice none 0 0]) ?_ 2 _ rfl;(with_reducible repeat (first|refine blk_drewN ?_ _|refine blk_drew ?_|refine blk_alloc ?_ _));refine blk_put (cs:=#[.int .i64 t281,.int .i64 0,.slice none 0 0]) ?_ 1 _ rfl;(with_reducible repeat (first|refine blk_drewN ?_ _|refine blk_drew ?_|refine blk_alloc ?_ _));refine blk_put (cs:=#[.int .i64 0,.int .i64 0,.slice none 0 0]) ?_ 0 _ rfl;(with_reducible repeat (first|refine blk_drewN ?_ _|refine blk_drew ?_|refine blk_alloc ?_ _));exact BK287.out⟩,⟨by repeat (first|(with_reducible first|exact HB.out|apply ba|apply bb|apply bc|refine below_set ?_ (IsS57.ge HI250.out)|refine below_set ?_ GE257.out|refine below_set ?_ GE266.out|refine below_set ?_ GE273.out|refine below_set ?_ GE280.out|refine below_set ?_ GE287.out)|exact HB.out)⟩⟩
    ·
     rw [if_neg c55] at H
     have c55b0 : (t279 == 0) = false:=beq_eq_false_iff_ne.mpr c55
     have c55b1 : (t279 != 0) = true:=bne_iff_ne.mpr c55
     have H':=A_ H
     clear H
     go_wp2
     go_meet
     case rel=>exact ⟨_,(true),(by first|rfl|(simp;done)|(simp [*];done)),H',⟨by first|omega|exact Nat.le_refl _⟩,⟨by (with_reducible repeat (first|apply ra|apply rb|apply rc));exact rm (Kd.R_far (p:=⟨gb287,2,none⟩) (Kd.R_far (p:=⟨gb287,1,none⟩) (Kd.R_far (p:=⟨gb287,0,none⟩) (Kd.R_types HO255.out BK287.out (by decide)) (fun _ hk=>hk.2) (.int .i64 t281)) (fun _ hk=>hk.2) (.int .i64 t282)) (fun _ hk=>hk.2) (.slice Ao52 t283.length co52)) (fun _ hk=>⟨hk.1.1.1.1.2,⟨hk.1.1.1.2,⟨hk.1.1.2,hk.1.2⟩⟩⟩)⟩,⟨by (with_reducible repeat (first|apply ra|apply rb|apply rc));exact rm (Kd.R_far (p:=⟨gb287,2,none⟩) (Kd.R_far (p:=⟨gb287,1,none⟩) (Kd.R_far (p:=⟨gb287,0,none⟩) (Kd.R_types HO264.out BK287.out (by decide)) (fun _ hk=>hk.2) (.int .i64 t281)) (fun _ hk=>hk.2) (.int .i64 t282)) (fun _ hk=>hk.2) (.slice Ao52 t283.length co52)) (fun _ hk=>⟨hk.1.1.1.1.2,⟨hk.1.1.1.2,⟨hk.1.1.2,hk.1.2⟩⟩⟩)⟩,⟨by (with_reducible repeat (first|apply ra|apply rb|apply rc));exact rm (Kd.R_far (p:=⟨gb287,2,none⟩) (Kd.R_far (p:=⟨gb287,1,none⟩) (Kd.R_far (p:=⟨gb287,0,none⟩) (Kd.R_types HO271.out BK287.out (by decide)) (fun _ hk=>hk.2) (.int .i64 t281)) (fun _ hk=>hk.2) (.int .i64 t282)) (fun _ hk=>hk.2) (.slice Ao52 t283.length co52)) (fun _ hk=>⟨hk.1.1.1.1.2,⟨hk.1.1.1.2,⟨hk.1.1.2,hk.1.2⟩⟩⟩)⟩,⟨by (with_reducible repeat (first|apply ra|apply rb|apply rc));exact rm (Kd.R_far (p:=⟨gb287,2,none⟩) (Kd.R_far (p:=⟨gb287,1,none⟩) (Kd.R_far (p:=⟨gb287,0,none⟩) (Kd.R_types HO278.out BK287.out (by decide)) (fun _ hk=>hk.2) (.int .i64 t281)) (fun _ hk=>hk.2) (.int .i64 t282)) (fun _ hk=>hk.2) (.slice Ao52 t283.length co52)) (fun _ hk=>⟨hk.1.1.1.1.2,⟨hk.1.1.1.2,⟨hk.1.1.2,hk.1.2⟩⟩⟩)⟩,⟨by (with_reducible repeat (first|apply ra|apply rb|apply rc));exact rm (Kd.R_far (p:=⟨gb287,2,none⟩) (Kd.R_far (p:=⟨gb287,1,none⟩) (Kd.R_far (p:=⟨gb287,0,none⟩) (Kd.R_types HO285.out BK287.out (by decide)) (fun _ hk=>hk.2) (.int .i64 t281)) (fun _ hk=>hk.2) (.int .i64 t282)) (fun _ hk=>hk.2) (.slice Ao52 t283.length co52)) (fun _ hk=>⟨hk.1.1.1.1.2,⟨hk.1.1.1.2,⟨hk.1.1.2,hk.1.2⟩⟩⟩)⟩,⟨by (with_reducible repeat (first|refine blk_drewN ?_ _|refine blk_drew ?_|refine blk_alloc ?_ _));refine blk_far ?_ NB257_287.out _;(with_reducible repeat (first|refine blk_drewN ?_ _|refine blk_drew ?_|refine blk_alloc ?_ _));refine blk_far ?_ NB257_287.out _;(with_reducible repeat (first|refine blk_drewN ?_ _|refine blk_drew ?_|refine blk_alloc ?_ _));refine blk_far ?_ NB257_287.out _;(with_reducible repeat (first|refine blk_drewN ?_ _|refine blk_drew ?_|refine blk_alloc ?_ _));exact BK257.out⟩,⟨by (with_reducible repeat (first|refine blk_drewN ?_ _|refine blk_drew ?_|refine blk_alloc ?_ _));refine blk_far ?_ NB266_287.out _;(with_reducible repeat (first|refine blk_drewN ?_ _|refine blk_drew ?_|refine blk_alloc ?_ _));refine blk_far ?_ NB266_287.out _;(with_reducible repeat (first|refine blk_drewN ?_ _|refine blk_drew ?_|refine blk_alloc ?_ _));refine blk_far ?_ NB266_287.out _;(with_reducible repeat (first|refine blk_drewN ?_ _|refine blk_drew ?_|refine blk_alloc ?_ _));exact BK266.out⟩,⟨by (with_reducible repeat (first|refine blk_drewN ?_ _|refine blk_drew ?_|refine blk_alloc ?_ _));refine blk_far ?_ NB273_287.out _;(with_reducible repeat (first|refine blk_drewN ?_ _|refine blk_drew ?_|refine blk_alloc ?_ _));refine blk_far ?_ NB273_287.out _;(with_reducible repeat (first|refine blk_drewN ?_ _|refine blk_drew ?_|refine blk_alloc ?_ _));refine blk_far ?_ NB273_287.out _;(with_reducible repeat (first|refine blk_drewN ?_ _|refine blk_drew ?_|refine blk_alloc ?_ _));exact BK273.out⟩,⟨by (with_reducible repeat (first|refine blk_drewN ?_ _|refine blk_drew ?_|refine blk_alloc ?_ _));refine blk_far ?_ NB280_287.out _;(with_reducible repeat (first|refine blk_drewN ?_ _|refine blk_drew ?_|refine blk_alloc ?_ _));refine blk_far ?_ NB280_287.out _;(with_reducible repeat (first|refine blk_drewN ?_ _|refine blk_drew ?_|refine blk_alloc ?_ _));refine blk_far ?_ NB280_287.out _;(with_reducible repeat (first|refine blk_drewN ?_ _|refine blk_drew ?_|refine blk_alloc ?_ _));exact BK280.out⟩,⟨by (with_reducible repeat (first|refine blk_drewN ?_ _|refine blk_drew ?_|refine blk_alloc ?_ _));refine blk_put (cs:=#[.int .i64 t281,.int .i64 t282,.slice none 0 0]) ?_ 2 _ rfl;(with_reducible repeat (first|refine blk_drewN ?_ _|refine blk_drew ?_|refine blk_alloc ?_ _));refine blk_put (cs:=#[.int .i64 t281,.int .i64 0,.slice none 0 0]) ?_ 1 _ rfl;(with_reducible repeat (first|refine blk_drewN ?_ _|refine blk_drew ?_|refine blk_alloc ?_ _));refine blk_put (cs:=#[.int .i64 0,.int .i64 0,.slice none 0 0]) ?_ 0 _ rfl;(with_reducible repeat (first|refine blk_drewN ?_ _|refine blk_drew ?_|refine blk_alloc ?_ _));exact BK287.out⟩,⟨by repeat (first|(with_reducible first|exact HB.out|apply ba|apply bb|apply bc|refine below_set ?_ (IsS57.ge HI250.out)|refine below_set ?_ GE257.out|refine below_set ?_ GE266.out|refine below_set ?_ GE273.out|refine below_set ?_ GE280.out|refine below_set ?_ GE287.out)|exact HB.out)⟩⟩
   ·
    rw [if_neg c54] at H
    have c54b0 : (t272 == 0) = false:=beq_eq_false_iff_ne.mpr c54
    have c54b1 : (t272 != 0) = true:=bne_iff_ne.mpr c54
    have H':=A_ H
    clear H
    go_wp2
    go_meet
    case rel=>exact ⟨_,(true),(by first|rfl|(simp;done)|(simp [*];done)),H',⟨by first|omega|exact Nat.le_refl _⟩,⟨by (with_reducible repeat (first|apply ra|apply rb|apply rc));exact rm (Kd.R_far (p:=⟨gb287,2,none⟩) (Kd.R_far (p:=⟨gb287,1,none⟩) (Kd.R_far (p:=⟨gb287,0,none⟩) (Kd.R_types HO255.out BK287.out (by decide)) (fun _ hk=>hk.2) (.int .i64 t281)) (fun _ hk=>hk.2) (.int .i64 t282)) (fun _ hk=>hk.2) (.slice Ao52 t283.length co52)) (fun _ hk=>⟨hk.1.1.1.1.2,⟨hk.1.1.1.2,⟨hk.1.1.2,hk.1.2⟩⟩⟩)⟩,⟨by (with_reducible repeat (first|apply ra|apply rb|apply rc));exact rm (Kd.R_far (p:=⟨gb287,2,none⟩) (Kd.R_far (p:=⟨gb287,1,none⟩) (Kd.R_far (p:=⟨gb287,0,none⟩) (Kd.R_types HO264.out BK287.out (by decide)) (fun _ hk=>hk.2) (.int .i64 t281)) (fun _ hk=>hk.2) (.int .i64 t282)) (fun _ hk=>hk.2) (.slice Ao52 t283.length co52)) (fun _ hk=>⟨hk.1.1.1.1.2,⟨hk.1.1.1.2,⟨hk.1.1.2,hk.1.2⟩⟩⟩)⟩,⟨by (with_reducible repeat (first|apply ra|apply rb|apply rc));exact rm (Kd.R_far (p:=⟨gb287,2,none⟩) (Kd.R_far (p:=⟨gb287,1,none⟩) (Kd.R_far (p:=⟨gb287,0,none⟩) (Kd.R_types HO271.out BK287.out (by decide)) (fun _ hk=>hk.2) (.int .i64 t281)) (fun _ hk=>hk.2) (.int .i64 t282)) (fun _ hk=>hk.2) (.slice Ao52 t283.length co52)) (fun _ hk=>⟨hk.1.1.1.1.2,⟨hk.1.1.1.2,⟨hk.1.1.2,hk.1.2⟩⟩⟩)⟩,⟨by (with_reducible repeat (first|apply ra|apply rb|apply rc));exact rm (Kd.R_far (p:=⟨gb287,2,none⟩) (Kd.R_far (p:=⟨gb287,1,none⟩) (Kd.R_far (p:=⟨gb287,0,none⟩) (Kd.R_types HO278.out BK287.out (by decide)) (fun _ hk=>hk.2) (.int .i64 t281)) (fun _ hk=>hk.2) (.int .i64 t282)) (fun _ hk=>hk.2) (.slice Ao52 t283.length co52)) (fun _ hk=>⟨hk.1.1.1.1.2,⟨hk.1.1.1.2,⟨hk.1.1.2,hk.1.2⟩⟩⟩)⟩,⟨by (with_reducible repeat (first|apply ra|apply rb|apply rc));exact rm (Kd.R_far (p:=⟨gb287,2,none⟩) (Kd.R_far (p:=⟨gb287,1,none⟩) (Kd.R_far (p:=⟨gb287,0,none⟩) (Kd.R_types HO285.out BK287.out (by decide)) (fun _ hk=>hk.2) (.int .i64 t281)) (fun _ hk=>hk.2) (.int .i64 t282)) (fun _ hk=>hk.2) (.slice Ao52 t283.length co52)) (fun _ hk=>⟨hk.1.1.1.1.2,⟨hk.1.1.1.2,⟨hk.1.1.2,hk.1.2⟩⟩⟩)⟩,⟨by (with_reducible repeat (first|refine blk_drewN ?_ _|refine blk_drew ?_|refine blk_alloc ?_ _));refine blk_far ?_ NB257_287.out _;(with_reducible repeat (first|refine blk_drewN ?_ _|refine blk_drew ?_|refine blk_alloc ?_ _));refine blk_far ?_ NB257_287.out _;(with_reducible repeat (first|refine blk_drewN ?_ _|refine blk_drew ?_|refine blk_alloc ?_ _));refine blk_far ?_ NB257_287.out _;(with_reducible repeat (first|refine blk_drewN ?_ _|refine blk_drew ?_|refine blk_alloc ?_ _));exact BK257.out⟩,⟨by (with_reducible repeat (first|refine blk_drewN ?_ _|refine blk_drew ?_|refine blk_alloc ?_ _));refine blk_far ?_ NB266_287.out _;(with_reducible repeat (first|refine blk_drewN ?_ _|refine blk_drew ?_|refine blk_alloc ?_ _));refine blk_far ?_ NB266_287.out _;(with_reducible repeat (first|refine blk_drewN ?_ _|refine blk_drew ?_|refine blk_alloc ?_ _));refine blk_far ?_ NB266_287.out _;(with_reducible repeat (first|refine blk_drewN ?_ _|refine blk_drew ?_|refine blk_alloc ?_ _));exact BK266.out⟩,⟨by (with_reducible repeat (first|refine blk_drewN ?_ _|refine blk_drew ?_|refine blk_alloc ?_ _));refine blk_far ?_ NB273_287.out _;(with_reducible repeat (first|refine blk_drewN ?_ _|refine blk_drew ?_|refine blk_alloc ?_ _));refine blk_far ?_ NB273_287.out _;(with_reducible repeat (first|refine blk_drewN ?_ _|refine blk_drew ?_|refine blk_alloc ?_ _));refine blk_far ?_ NB273_287.out _;(with_reducible repeat (first|refine blk_drewN ?_ _|refine blk_drew ?_|refine blk_alloc ?_ _));exact BK273.out⟩,⟨by (with_reducible repeat (first|refine blk_drewN ?_ _|refine blk_drew ?_|refine blk_alloc ?_ _));refine blk_far ?_ NB280_287.out _;(with_reducible repeat (first|refine blk_drewN ?_ _|refine blk_drew ?_|refine blk_alloc ?_ _));refine blk_far ?_ NB280_287.out _;(with_reducible repeat (first|refine blk_drewN ?_ _|refine blk_drew ?_|refine blk_alloc ?_ _));refine blk_far ?_ NB280_287.out _;(with_reducible repeat (first|refine blk_drewN ?_ _|refine blk_drew ?_|refine blk_alloc ?_ _));exact BK280.out⟩,⟨by (with_reducible repeat (first|refine blk_drewN ?_ _|refine blk_drew ?_|refine blk_alloc ?_ _));refine blk_put (cs:=#[.int .i64 t281,.int .i64 t282,.slice none 0 0]) ?_ 2 _ rfl;(with_reducible repeat (first|refine blk_drewN ?_ _|refine blk_drew ?_|refine blk_alloc ?_ _));refine blk_put (cs:=#[.int .i64 t281,.int .i64 0,.slice none 0 0]) ?_ 1 _ rfl;(with_reducible repeat (first|refine blk_drewN ?_ _|refine blk_drew ?_|refine blk_alloc ?_ _));refine blk_put (cs:=#[.int .i64 0,.int .i64 0,.slice none 0 0]) ?_ 0 _ rfl;(with_reducible repeat (first|refine blk_drewN ?_ _|refine blk_drew ?_|refine blk_alloc ?_ _));exact BK287.out⟩,⟨by repeat (first|(with_reducible first|exact HB.out|apply ba|apply bb|apply bc|refine below_set ?_ (IsS57.ge HI250.out)|refine below_set ?_ GE257.out|refine below_set ?_ GE266.out|refine below_set ?_ GE273.out|refine below_set ?_ GE280.out|refine below_set ?_ GE287.out)|exact HB.out)⟩⟩
  ·
   rw [if_neg c53] at H
   have c53b0 : (t265 == 0) = false:=beq_eq_false_iff_ne.mpr c53
   have c53b1 : (t265 != 0) = true:=bne_iff_ne.mpr c53
   (first|rw [c53b0]|(simp only [i64_w,i32_w];rw [c53b0])|skip)
   have H':=A_ H
   clear H
   go_wp2
   go_meet
   case rel=>exact ⟨_,(true),(by first|rfl|(simp;done)|(simp [*];done)),H',⟨by first|omega|exact Nat.le_refl _⟩,⟨by (with_reducible repeat (first|apply ra|apply rb|apply rc));exact rm (Kd.R_far (p:=⟨gb287,2,none⟩) (Kd.R_far (p:=⟨gb287,1,none⟩) (Kd.R_far (p:=⟨gb287,0,none⟩) (Kd.R_types HO255.out BK287.out (by decide)) (fun _ hk=>hk.2) (.int .i64 t281)) (fun _ hk=>hk.2) (.int .i64 t282)) (fun _ hk=>hk.2) (.slice Ao52 t283.length co52)) (fun _ hk=>⟨hk.1.1.1.1.2,⟨hk.1.1.1.2,⟨hk.1.1.2,hk.1.2⟩⟩⟩)⟩,⟨by (with_reducible repeat (first|apply ra|apply rb|apply rc));exact rm (Kd.R_far (p:=⟨gb287,2,none⟩) (Kd.R_far (p:=⟨gb287,1,none⟩) (Kd.R_far (p:=⟨gb287,0,none⟩) (Kd.R_types HO264.out BK287.out (by decide)) (fun _ hk=>hk.2) (.int .i64 t281)) (fun _ hk=>hk.2) (.int .i64 t282)) (fun _ hk=>hk.2) (.slice Ao52 t283.length co52)) (fun _ hk=>⟨hk.1.1.1.1.2,⟨hk.1.1.1.2,⟨hk.1.1.2,hk.1.2⟩⟩⟩)⟩,⟨by (with_reducible repeat (first|apply ra|apply rb|apply rc));exact rm (Kd.R_far (p:=⟨gb287,2,none⟩) (Kd.R_far (p:=⟨gb287,1,none⟩) (Kd.R_far (p:=⟨gb287,0,none⟩) (Kd.R_types HO271.out BK287.out (by decide)) (fun _ hk=>hk.2) (.int .i64 t281)) (fun _ hk=>hk.2) (.int .i64 t282)) (fun _ hk=>hk.2) (.slice Ao52 t283.length co52)) (fun _ hk=>⟨hk.1.1.1.1.2,⟨hk.1.1.1.2,⟨hk.1.1.2,hk.1.2⟩⟩⟩)⟩,⟨by (with_reducible repeat (first|apply ra|apply rb|apply rc));exact rm (Kd.R_far (p:=⟨gb287,2,none⟩) (Kd.R_far (p:=⟨gb287,1,none⟩) (Kd.R_far (p:=⟨gb287,0,none⟩) (Kd.R_types HO278.out BK287.out (by decide)) (fun _ hk=>hk.2) (.int .i64 t281)) (fun _ hk=>hk.2) (.int .i64 t282)) (fun _ hk=>hk.2) (.slice Ao52 t283.length co52)) (fun _ hk=>⟨hk.1.1.1.1.2,⟨hk.1.1.1.2,⟨hk.1.1.2,hk.1.2⟩⟩⟩)⟩,⟨by (with_reducible repeat (first|apply ra|apply rb|apply rc));exact rm (Kd.R_far (p:=⟨gb287,2,none⟩) (Kd.R_far (p:=⟨gb287,1,none⟩) (Kd.R_far (p:=⟨gb287,0,none⟩) (Kd.R_types HO285.out BK287.out (by decide)) (fun _ hk=>hk.2) (.int .i64 t281)) (fun _ hk=>hk.2) (.int .i64 t282)) (fun _ hk=>hk.2) (.slice Ao52 t283.length co52)) (fun _ hk=>⟨hk.1.1.1.1.2,⟨hk.1.1.1.2,⟨hk.1.1.2,hk.1.2⟩⟩⟩)⟩,⟨by (with_reducible repeat (first|refine blk_drewN ?_ _|refine blk_drew ?_|refine blk_alloc ?_ _));refine blk_far ?_ NB257_287.out _;(with_reducible repeat (first|refine blk_drewN ?_ _|refine blk_drew ?_|refine blk_alloc ?_ _));refine blk_far ?_ NB257_287.out _;(with_reducible repeat (first|refine blk_drewN ?_ _|refine blk_drew ?_|refine blk_alloc ?_ _));refine blk_far ?_ NB257_287.out _;(with_reducible repeat (first|refine blk_drewN ?_ _|refine blk_drew ?_|refine blk_alloc ?_ _));exact BK257.out⟩,⟨by (with_reducible repeat (first|refine blk_drewN ?_ _|refine blk_drew ?_|refine blk_alloc ?_ _));refine blk_far ?_ NB266_287.out _;(with_reducible repeat (first|refine blk_drewN ?_ _|refine blk_drew ?_|refine blk_alloc ?_ _));refine blk_far ?_ NB266_287.out _;(with_reducible repeat (first|refine blk_drewN ?_ _|refine blk_drew ?_|refine blk_alloc ?_ _));refine blk_far ?_ NB266_287.out _;(with_reducible repeat (first|refine blk_drewN ?_ _|refine blk_drew ?_|refine blk_alloc ?_ _));exact BK266.out⟩,⟨by (with_reducible repeat (first|refine blk_drewN ?_ _|refine blk_drew ?_|refine blk_alloc ?_ _));refine blk_far ?_ NB273_287.out _;(with_reducible repeat (first|refine blk_drewN ?_ _|refine blk_drew ?_|refine blk_alloc ?_ _));refine blk_far ?_ NB273_287.out _;(with_reducible repeat (first|refine blk_drewN ?_ _|refine blk_drew ?_|refine blk_alloc ?_ _));refine blk_far ?_ NB273_287.out _;(with_reducible repeat (first|refine blk_drewN ?_ _|refine blk_drew ?_|refine blk_alloc ?_ _));exact BK273.out⟩,⟨by (with_reducible repeat (first|refine blk_drewN ?_ _|refine blk_drew ?_|refine blk_alloc ?_ _));refine blk_far ?_ NB280_287.out _;(with_reducible repeat (first|refine blk_drewN ?_ _|refine blk_drew ?_|refine blk_alloc ?_ _));refine blk_far ?_ NB280_287.out _;(with_reducible repeat (first|refine blk_drewN ?_ _|refine blk_drew ?_|refine blk_alloc ?_ _));refine blk_far ?_ NB280_287.out _;(with_reducible repeat (first|refine blk_drewN ?_ _|refine blk_drew ?_|refine blk_alloc ?_ _));exact BK280.out⟩,⟨by (with_reducible repeat (first|refine blk_drewN ?_ _|refine blk_drew ?_|refine blk_alloc ?_ _));refine blk_put (cs:=#[.int .i64 t281,.int .i64 t282,.slice none 0 0]) ?_ 2 _ rfl;(with_reducible repeat (first|refine blk_drewN ?_ _|refine blk_drew ?_|refine blk_alloc ?_ _));refine blk_put (cs:=#[.int .i64 t281,.int .i64 0,.slice none 0 0]) ?_ 1 _ rfl;(with_reducible repeat (first|refine blk_drewN ?_ _|refine blk_drew ?_|refine blk_alloc ?_ _));refine blk_put (cs:=#[.int .i64 0,.int .i64 0,.slice none 0 0]) ?_ 0 _ rfl;(with_reducible repeat (first|refine blk_drewN ?_ _|refine blk_drew ?_|refine blk_alloc ?_ _));exact BK287.out⟩,⟨by repeat (first|(with_reducible first|exact HB.out|apply ba|apply bb|apply bc|refine below_set ?_ (IsS57.ge HI250.out)|refine below_set ?_ GE257.out|refine below_set ?_ GE266.out|refine below_set ?_ GE273.out|refine below_set ?_ GE280.out|refine below_set ?_ GE287.out)|exact HB.out)⟩⟩
 case rest =>
  clear HC13
  try clear c1
  try clear c2
  try clear p2
  try clear c3
  try clear c4
  try clear c5
  try clear c6
  try clear p6
  try clear c9
  try clear c10
  try clear c17
  try clear c18
  try clear c20
  try clear c22
  try clear c23
  try clear c29
  try clear c30
  try clear c31
  try clear c37
  try clear c38
  try clear c39
  try clear c40
  try clear c46
  try clear c47
  try clear c48
  try clear c49
  try clear c50
  try clear c53
  try clear c53b0
  try clear c53b1
  try clear c54
  try clear c54b0
  try clear c54b1
  try clear c55
  try clear c55b0
  try clear c55b1
  try clear c56
  try clear c56b0
  try clear c56b1
  try clear c58
  try clear c59
  try clear c60
  try clear c61
  try clear c62
  try clear c64
  try clear p64
  try clear c65
  try clear c66
  try clear c67
  try clear hcz18_0
  try clear hcz18_1
  try clear hcz18_2
  try clear hcz24_0
  try clear hcz24_1
  try clear hcz24_2
  try clear hcz26_0
  try clear hcz26_1
  try clear hcz26_2
  try clear hcz32_0
  try clear hcz32_1
  try clear hcz32_2
  try clear hcz34_0
  try clear hcz34_1
  try clear hcz34_2
  try clear hcz41_0
  try clear hcz41_1
  try clear hcz41_2
  try clear hcz43_0
  try clear hcz43_1
  try clear hcz43_2
  try clear hcz51_0
  try clear hcz51_1
  try clear hcz51_2
  try clear hcz63_0
  try clear hcz63_1
  try clear hcz63_2
  try clear hcz68_0
  try clear hcz68_1
  try clear hcz68_2
  try clear hfz18_0
  try clear hfz18_1
  try clear hfz18_2
  try clear hfz24_0
  try clear hfz24_1
  try clear hfz24_2
  try clear hfz26_0
  try clear hfz26_1
  try clear hfz26_2
  try clear hfz32_0
  try clear hfz32_1
  try clear hfz32_2
  try clear hfz34_0
  try clear hfz34_1
  try clear hfz34_2
  try clear hfz41_0
  try clear hfz41_1
  try clear hfz41_2
  try clear hfz43_0
  try clear hfz43_1
  try clear hfz43_2
  try clear hfz51_0
  try clear hfz51_1
  try clear hfz51_2
  try clear hfz63_0
  try clear hfz63_1
  try clear hfz63_2
  try clear hfz68_0
  try clear hfz68_1
  try clear hfz68_2
  obtain ⟨kq,x90_12,rfl,HA,HJ12,HO_258002,HO_267002,HO_274002,HO_281002,HO_288002,BK257,BK266,BK273,BK280,BK287,HB⟩:=hcut
  cases kq with
  | zero=>exact absurd HA.out (by simp [shapesearchlaw09_SeriesParts.j0])
  | succ kj12 =>
   have H:=HA.out
   clear HA
   simp only [shapesearchlaw09_SeriesParts.j0] at H
   by_cases c70 : x90_12 = true
   ·
    subst c70
    have H1 : (some false) = some r:=by rw [if_pos rfl] at H;exact H
    clear H
    have H:=H1
    clear H1
    exact absurd ((Option.some.inj H).trans HT_.out) (by decide)
   ·
    replace c70:=Bool.eq_false_iff.mpr c70
    subst c70
    have H1 : ((series_Join.f kj12 t260 t261 t262 (wrap64 (t267 + (wrap64 (t252 * (wrap64 (a3)))))) t268 t269).bind fun bt290=>(if bt290.2.2.2 = 0 then (shapesearchlaw09_SeriesParts.j1 kj12 a3 t258 t259 ((bt290.2.2.1.length : Int) != (wrap64 ((wrap64 (t258 + (wrap64 (a3)))) + t259))) t260 t261 t262 (wrap64 (t267 + (wrap64 (t252 * (wrap64 (a3)))))) t268 t269 bt290.1 bt290.2.1 bt290.2.2.1) else (shapesearchlaw09_SeriesParts.j1 kj12 a3 t258 t259 true t260 t261 t262 (wrap64 (t267 + (wrap64 (t252 * (wrap64 (a3)))))) t268 t269 bt290.1 bt290.2.1 bt290.2.2.1))) = some r:=by rw [if_neg (show ¬ (false = true) by decide)] at H;exact H
    clear H
    have H:=H1
    clear H1
    replace H:=Option.bind_eq_some_iff.mp H
    obtain ⟨⟨t290,t291,t292,t295⟩,A710,H⟩:=H
    replace H : (if t295 = 0 then (shapesearchlaw09_SeriesParts.j1 kj12 a3 t258 t259 ((t292.length : Int) != (wrap64 ((wrap64 (t258 + (wrap64 (a3)))) + t259))) t260 t261 t262 (wrap64 (t267 + (wrap64 (t252 * (wrap64 (a3)))))) t268 t269 t290 t291 t292) else (shapesearchlaw09_SeriesParts.j1 kj12 a3 t258 t259 true t260 t261 t262 (wrap64 (t267 + (wrap64 (t252 * (wrap64 (a3)))))) t268 t269 t290 t291 t292)) = some r:=H
    have A71:=A_ A710
    clear A710
    have HC72:=A_ H
    clear H
    have hnb73:=NB273_257.out
    have hnc73:=NB257_273.out
    have hnb74:=NB273_266.out
    have hnc74:=NB266_273.out
    have hnb75:=NB273_280.out
    have hnc75:=NB280_273.out
    have hnb76:=NB273_287.out
    have hnc76:=NB287_273.out
    have hcz77_0 : wc.cell? ⟨gb273,0,none⟩ = some (.int .i64 t267):=(blk_cell BK273.out 0).trans rfl
    have hcz77_1 : wc.cell? ⟨gb273,1,none⟩ = some (.int .i64 t268):=(blk_cell BK273.out 1).trans rfl
    have hcz77_2 : wc.cell? ⟨gb273,2,none⟩ = some (.slice Ao33 t269.length co33):=(blk_cell BK273.out 2).trans rfl
    have hfz77_0:=blk_frozen BK273.out 0
    have hfz77_1:=blk_frozen BK273.out 1
    have hfz77_2:=blk_frozen BK273.out 2
    go_upto_region 13 with (first|((with_reducible refine gate_dst (N:=20) rfl ?_);(try (refine gate_guard (by rfl) ?_;dsimp only));refine box_event ?hg (N:=20) ?hd (cs:=#[.int .i64 0,.int .i64 0,.slice none 0 0]) (t:=24) ?hr ?_;(case hd=>rfl);(case hg=>rfl);(case hr=>first|(go_simp;done)|(go_simp;rfl));intro gb289 hg w78 hbox hb;have n0_:=A_ (rw_ (by (with_reducible repeat (first|apply ra|apply rb|apply rc));exact HO_258002.out) hb);have n1_:=A_ (rw_ (by (with_reducible repeat (first|apply ra|apply rb|apply rc));exact HO_267002.out) hb);have n2_:=A_ (rw_ (by (with_reducible repeat (first|apply ra|apply rb|apply rc));exact HO_274002.out) hb);have n3_:=A_ (rw_ (by (with_reducible repeat (first|apply ra|apply rb|apply rc));exact HO_281002.out) hb);have n4_:=A_ (rw_ (by (with_reducible repeat (first|apply ra|apply rb|apply rc));exact HO_288002.out) hb);have n5_:=A_ (blk_below (g:=gb257) (o:=.cells #[.int .i64 t251,.int .i64 t252,.slice Ao19 t253.length co19] 24 (0,0)) (by (with_reducible repeat (first|refine blk_drewN ?_ _|refine blk_drew ?_|refine blk_alloc ?_ _));exact BK257.out) hb);have n6_:=A_ (blk_below (g:=gb266) (o:=.cells #[.int .i64 t260,.int .i64 t261,.slice Ao25 t262.length co25] 24 (0,0)) (by (with_reducible repeat (first|refine blk_drewN ?_ _|refine blk_drew ?_|refine blk_alloc ?_ _));exact BK266.out) hb);have n7_:=A_ (blk_below (g:=gb273) (o:=.cells #[.int .i64 t267,.int .i64 t268,.slice Ao33 t269.length co33] 24 (0,0)) (by (with_reducible repeat (first|refine blk_drewN ?_ _|refine blk_drew ?_|refine blk_alloc ?_ _));exact BK273.out) hb);have n8_:=A_ (blk_below (g:=gb280) (o:=.cells #[.int .i64 t274,.int .i64 t275,.slice Ao42 t276.length co42] 24 (0,0)) (by (with_reducible repeat (first|refine blk_drewN ?_ _|refine blk_drew ?_|refine blk_alloc ?_ _));exact BK280.out) hb);have n9_:=A_ (blk_below (g:=gb287) (o:=.cells #[.int .i64 t281,.int .i64 t282,.slice Ao52 t283.length co52] 24 (0,0)) (by (with_reducible repeat (first|refine blk_drewN ?_ _|refine blk_drew ?_|refine blk_alloc ?_ _));exact BK287.out) hb);have n10_:=A_ (below_step (by repeat (first|(with_reducible first|exact HB.out|apply ba|apply bb|apply bc|refine below_set ?_ GE257.out|refine below_set ?_ GE266.out|refine below_set ?_ GE273.out|refine below_set ?_ GE280.out|refine below_set ?_ GE287.out)|exact HB.out)) hb);have n11_:=A_ (hbox);have n12_:=A_ ((by rw [hg];exact (below_size (by repeat (first|(with_reducible first|exact HB.out|apply ba|apply bb|apply bc|refine below_set ?_ GE257.out|refine below_set ?_ GE266.out|refine below_set ?_ GE273.out|refine below_set ?_ GE280.out|refine below_set ?_ GE287.out)|exact HB.out))) : w.heap.size ≤ gb289));have n13_:=A_ ((by rw [hg];exact (below_size (by repeat (first|(with_reducible first|exact HB.out|apply ba|apply bb|apply bc|refine below_set ?_ GE257.out|refine below_set ?_ GE266.out|refine below_set ?_ GE273.out|refine below_set ?_ GE280.out|refine below_set ?_ GE287.out)|exact HB.out))) : w.heap.size ≤ gb289));have n14_:=A_ ((by rw [hg];exact Nat.ne_of_lt (blk_lt (g:=gb257) (o:=.cells #[.int .i64 t251,.int .i64 t252,.slice Ao19 t253.length co19] 24 (0,0)) (by (with_reducible repeat (first|refine blk_drewN ?_ _|refine blk_drew ?_|refine blk_alloc ?_ _));exact BK257.out)) : gb257≠gb289));have n15_:=A_ ((by rw [hg];exact Nat.ne_of_gt (blk_lt (g:=gb257) (o:=.cells #[.int .i64 t251,.int .i64 t252,.slice Ao19 t253.length co19] 24 (0,0)) (by (with_reducible repeat (first|refine blk_drewN ?_ _|refine blk_drew ?_|refine blk_alloc ?_ _));exact BK257.out)) : gb289≠gb257));have n16_:=A_ ((by rw [hg];exact Nat.ne_of_lt (blk_lt (g:=gb266) (o:=.cells #[.int .i64 t260,.int .i64 t261,.slice Ao25 t262.length co25] 24 (0,0)) (by (with_reducible repeat (first|refine blk_drewN ?_ _|refine blk_drew ?_|refine blk_alloc ?_ _));exact BK266.out)) : gb266≠gb289));have n17_:=A_ ((by rw [hg];exact Nat.ne_of_gt (blk_lt (g:=gb266) (o:=.cells #[.int .i64 t260,.int .i64 t261,.slice Ao25 t262.length co25] 24 (0,0)) (by (with_reducible repeat (first|refine blk_drewN ?_ _|refine blk_drew ?_|refine blk_alloc ?_ _));exact BK266.out)) : gb289≠gb266));have n18_:=A_ ((by rw [hg];exact Nat.ne_of_lt (blk_lt (g:=gb273) (o:=.cells #[.int .i64 t267,.int .i64 t268,.slice Ao33 t269.length co33] 24 (0,0)) (by (with_reducible repeat (first|refine blk_drewN ?_ _|refine blk_drew ?_|refine blk_alloc ?_ _));exact BK273.out)) : gb273≠gb289));have n19_:=A_ ((by rw [hg];exact Nat.ne_of_gt (blk_lt (g:=gb273) (o:=.cells #[.int .i64 t267,.int .i64 t268,.slice Ao33 t269.length co33] 24 (0,0)) (by (with_reducible repeat (first|refine blk_drewN ?_ _|refine blk_drew ?_|refine blk_alloc ?_ _));exact BK273.out)) : gb289≠gb273));have n20_:=A_ ((by rw [hg];exact Nat.ne_of_lt (blk_lt (g:=gb280) (o:=.cells #[.int .i64 t274,.int .i64 t275,.slice Ao42 t276.length co42] 24 (0,0)) (by (with_reducible repeat (first|refine blk_drewN ?_ _|refine blk_drew ?_|refine blk_alloc ?_ _));exact BK280.out)) : gb280≠gb289));have n21_:=A_ ((by rw [hg];exact Nat.ne_of_gt (blk_lt (g:=gb280) (o:=.cells #[.int .i64 t274,.int .i64 t275,.slice Ao42 t276.length co42] 24 (0,0)) (by (with_reducible repeat (first|refine blk_drewN ?_ _|refine blk_drew ?_|refine blk_alloc ?_ _));exact BK280.out)) : gb289≠gb280));have n22_:=A_ ((by rw [hg];exact Nat.ne_of_lt (blk_lt (g:=gb287) (o:=.cells #[.int .i64 t281,.int .i64 t282,.slice Ao52 t283.length co52] 24 (0,0)) (by (with_reducible repeat (first|refine blk_drewN ?_ _|refine blk_drew ?_|refine blk_alloc ?_ _));exact BK287.out)) : gb287≠gb289));have n23_:=A_ ((by rw [hg];exact Nat.ne_of_gt (blk_lt (g:=gb287) (o:=.cells #[.int .i64 t281,.int .i64 t282,.slice Ao52 t283.length co52] 24 (0,0)) (by (with_reducible repeat (first|refine blk_drewN ?_ _|refine blk_drew ?_|refine blk_alloc ?_ _));exact BK287.out)) : gb289≠gb287));clear HO_258002;clear HO_267002;clear HO_274002;clear HO_281002;clear HO_288002;clear BK257;clear BK266;clear BK273;clear BK280;clear BK287;clear HB;have HO_258002:=n0_;have HO_267002:=n1_;have HO_274002:=n2_;have HO_281002:=n3_;have HO_288002:=n4_;have BK257:=n5_;have BK266:=n6_;have BK273:=n7_;have BK280:=n8_;have BK287:=n9_;have HB:=n10_;have BK289:=n11_;have GW289:=n12_;have GE289:=n13_;have NB257_289:=n14_;have NB289_257:=n15_;have NB266_289:=n16_;have NB289_266:=n17_;have NB273_289:=n18_;have NB289_273:=n19_;have NB280_289:=n20_;have NB289_280:=n21_;have NB287_289:=n22_;have NB289_287:=n23_;clear n0_ n1_ n2_ n3_ n4_ n5_ n6_ n7_ n8_ n9_ n10_ n11_ n12_ n13_ n14_ n15_ n16_ n17_ n18_ n19_ n20_ n21_ n22_ n23_;clear hb hbox hg;have hnb79:=NB289_257.out;have hnc79:=NB257_289.out;have hnb80:=NB289_266.out;have hnc80:=NB266_289.out;have hnb81:=NB289_273.out;have hnc81:=NB273_289.out;have hnb82:=NB289_280.out;have hnc82:=NB280_289.out;have hnb83:=NB289_287.out;have hnc83:=NB287_289.out;have hcz84_0 : w78.cell? ⟨gb289,0,none⟩ = some (.int .i64 0):=(blk_cell BK289.out 0).trans rfl;have hcz84_1 : w78.cell? ⟨gb289,1,none⟩ = some (.int .i64 0):=(blk_cell BK289.out 1).trans rfl;have hcz84_2 : w78.cell? ⟨gb289,2,none⟩ = some (.slice none 0 0):=(blk_cell BK289.out 2).trans rfl;have hfz84_0:=blk_frozen BK289.out 0;have hfz84_1:=blk_frozen BK289.out 1;have hfz84_2:=blk_frozen BK289.out 2;have hnb85:=NB257_266.out;have hnc85:=NB266_257.out;have hnb86:=NB257_280.out;have hnc86:=NB280_257.out;have hnb87:=NB257_287.out;have hnc87:=NB287_257.out;have hcz88_0 : w78.cell? ⟨gb257,0,none⟩ = some (.int .i64 t251):=(blk_cell BK257.out 0).trans rfl;have hcz88_1 : w78.cell? ⟨gb257,1,none⟩ = some (.int .i64 t252):=(blk_cell BK257.out 1).trans rfl;have hcz88_2 : w78.cell? ⟨gb257,2,none⟩ = some (.slice Ao19 t253.length co19):=(blk_cell BK257.out 2).trans rfl;have hfz88_0:=blk_frozen BK257.out 0;have hfz88_1:=blk_frozen BK257.out 1;have hfz88_2:=blk_frozen BK257.out 2;have hnb89:=NB266_280.out;have hnc89:=NB280_266.out;have hnb90:=NB266_287.out;have hnc90:=NB287_266.out;have hcz91_0 : w78.cell? ⟨gb266,0,none⟩ = some (.int .i64 t260):=(blk_cell BK266.out 0).trans rfl;have hcz91_1 : w78.cell? ⟨gb266,1,none⟩ = some (.int .i64 t261):=(blk_cell BK266.out 1).trans rfl;have hcz91_2 : w78.cell? ⟨gb266,2,none⟩ = some (.slice Ao25 t262.length co25):=(blk_cell BK266.out 2).trans rfl;have hfz91_0:=blk_frozen BK266.out 0;have hfz91_1:=blk_frozen BK266.out 1;have hfz91_2:=blk_frozen BK266.out 2)|((with_reducible refine gate_callee (f:=20) rfl ?_);refine goesL_ (some 104) rfl rfl Try.func20 (by kernel_rfl) rfl #[.agg #[.int .i64 t260,.int .i64 t261,.slice Ao25 t262.length co25],.agg #[.int .i64 (wrap64 (t267 + (wrap64 (t252 * (wrap64 (a3)))))),.int .i64 t268,.slice Ao33 t269.length co33]] rfl (by (try simp only [List.map_toArray,List.map_cons,List.map_nil]);first|done|rfl|(simp only [List.length_drop,List.length_take];rfl)) ?_;(with_reducible refine (series_Join.calls kj12 t260 t261 _ _ t262 (wrap64 (t267 + (wrap64 (t252 * (wrap64 (a3)))))) t268 _ _ t269 t290 t291 t292 t295 _ ?side1 ?side2 ?side3 ?side4 A71.out).mono ?_);(case side1=>refine (rd_ (e:=3) (base:=w.heap.size) (ok:=fun k_=>(nb k_ (.slice Ao19 t253.length co19)∧(nb k_ (.slice Ao33 t269.length co33)∧(nb k_ (.slice Ao42 t276.length co42)∧nb k_ (.slice Ao52 t283.length co52))))) (n:=t262.length) (c:=co25) ?_).2.2;exact (by (with_reducible repeat (first|apply ra|apply rb|apply rc));exact (rm (Kd.R_far (p:=⟨gb289,0,none⟩) (Kd.R_far (p:=⟨gb289,2,none⟩) (Kd.R_far (p:=⟨gb289,1,none⟩) (Kd.R_far (p:=⟨gb289,0,none⟩) (Kd.R_types HO_267002.out BK289.out (by decide)) (fun _ hk=>hk.2) (.int .i64 t267)) (fun _ hk=>hk.2) (.int .i64 t268)) (fun _ hk=>hk.2) (.slice Ao33 t269.length co33)) (fun _ hk=>hk.2) (.int .i64 (wrap64 (t267 + (wrap64 (t252 * (wrap64 (a3)))))))) (fun _ h_=>h_.1))));(case side2=>exact (rd_ HO_267002.out).2.1);(case side3=>refine (rd_ (e:=3) (base:=w.heap.size) (ok:=fun k_=>(nb k_ (.slice Ao19 t253.length co19)∧(nb k_ (.slice Ao25 t262.length co25)∧(nb k_ (.slice Ao42 t276.length co42)∧nb k_ (.slice Ao52 t283.length co52))))) (n:=t269.length) (c:=co33) ?_).2.2;exact (by (with_reducible repeat (first|apply ra|apply rb|apply rc));exact (rm (Kd.R_far (p:=⟨gb289,0,none⟩) (Kd.R_far (p:=⟨gb289,2,none⟩) (Kd.R_far (p:=⟨gb289,1,none⟩) (Kd.R_far (p:=⟨gb289,0,none⟩) (Kd.R_types HO_274002.out BK289.out (by decide)) (fun _ hk=>hk.2) (.int .i64 t267)) (fun _ hk=>hk.2) (.int .i64 t268)) (fun _ hk=>hk.2) (.slice Ao33 t269.length co33)) (fun _ hk=>hk.2) (.int .i64 (wrap64 (t267 + (wrap64 (t252 * (wrap64 (a3)))))))) (fun _ h_=>h_.1))));(case side4=>exact (rd_ HO_274002.out).2.1);rintro e w92 ⟨v293,rfl,ho0,hb⟩;refine ⟨_,rfl,?_⟩;have n0_:=A_ (re (by (with_reducible repeat (first|apply ra|apply rb|apply rc));exact (rm (Kd.R_far (p:=⟨gb289,0,none⟩) (Kd.R_far (p:=⟨gb289,2,none⟩) (Kd.R_far (p:=⟨gb289,1,none⟩) (Kd.R_far (p:=⟨gb289,0,none⟩) (Kd.R_types HO_258002.out BK289.out (by decide)) (fun _ hk=>hk.2) (.int .i64 t267)) (fun _ hk=>hk.2) (.int .i64 t268)) (fun _ hk=>hk.2) (.slice Ao33 t269.length co33)) (fun _ hk=>hk.2) (.int .i64 (wrap64 (t267 + (wrap64 (t252 * (wrap64 (a3)))))))) (fun _ h_=>h_.1))) (rs ho0) hb);have n1_:=A_ (re (by (with_reducible repeat (first|apply ra|apply rb|apply rc));exact (rm (Kd.R_far (p:=⟨gb289,0,none⟩) (Kd.R_far (p:=⟨gb289,2,none⟩) (Kd.R_far (p:=⟨gb289,1,none⟩) (Kd.R_far (p:=⟨gb289,0,none⟩) (Kd.R_types HO_267002.out BK289.out (by decide)) (fun _ hk=>hk.2) (.int .i64 t267)) (fun _ hk=>hk.2) (.int .i64 t268)) (fun _ hk=>hk.2) (.slice Ao33 t269.length co33)) (fun _ hk=>hk.2) (.int .i64 (wrap64 (t267 + (wrap64 (t252 * (wrap64 (a3)))))))) (fun _ h_=>h_.1))) (rs ho0) hb);have n2_:=A_ (re (by (with_reducible repeat (first|apply ra|apply rb|apply rc));exact (rm (Kd.R_far (p:=⟨gb289,0,none⟩) (Kd.R_far (p:=⟨gb289,2,none⟩) (Kd.R_far (p:=⟨gb289,1,none⟩) (Kd.R_far (p:=⟨gb289,0,none⟩) (Kd.R_types HO_274002.out BK289.out (by decide)) (fun _ hk=>hk.2) (.int .i64 t267)) (fun _ hk=>hk.2) (.int .i64 t268)) (fun _ hk=>hk.2) (.slice Ao33 t269.length co33)) (fun _ hk=>hk.2) (.int .i64 (wrap64 (t267 + (wrap64 (t252 * (wrap64 (a3)))))))) (fun _ h_=>h_.1))) (rs ho0) hb);have n3_:=A_ (re (by (with_reducible repeat (first|apply ra|apply rb|apply rc));exact (rm (Kd.R_far (p:=⟨gb289,0,none⟩) (Kd.R_far (p:=⟨gb289,2,none⟩) (Kd.R_far (p:=⟨gb289,1,none⟩) (Kd.R_far (p:=⟨gb289,0,none⟩) (Kd.R_types HO_281002.out BK289.out (by decide)) (fun _ hk=>hk.2) (.int .i64 t267)) (fun _ hk=>hk.2) (.int .i64 t268)) (fun _ hk=>hk.2) (.slice Ao33 t269.length co33)) (fun _ hk=>hk.2) (.int .i64 (wrap64 (t267 + (wrap64 (t252 * (wrap64 (a3)))))))) (fun _ h_=>h_.1))) (rs ho0) hb);have n4_:=A_ (re (by (with_reducible repeat (first|apply ra|apply rb|apply rc));exact (rm (Kd.R_far (p:=⟨gb289,0,none⟩) (Kd.R_far (p:=⟨gb289,2,none⟩) (Kd.R_far (p:=⟨gb289,1,none⟩) (Kd.R_far (p:=⟨gb289,0,none⟩) (Kd.R_types HO_288002.out BK289.out (by decide)) (fun _ hk=>hk.2) (.int .i64 t267)) (fun _ hk=>hk.2) (.int .i64 t268)) (fun _ hk=>hk.2) (.slice Ao33 t269.length co33)) (fun _ hk=>hk.2) (.int .i64 (wrap64 (t267 + (wrap64 (t252 * (wrap64 (a3)))))))) (fun _ h_=>h_.1))) (rs ho0) hb);have n5_:=A_ (Kd.R_lower (rn (rn (rn (rn (rn ho0 (rl (by (with_reducible repeat (first|apply ra|apply rb|apply rc));exact (rm (Kd.R_far (p:=⟨gb289,0,none⟩) (Kd.R_far (p:=⟨gb289,2,none⟩) (Kd.R_far (p:=⟨gb289,1,none⟩) (Kd.R_far (p:=⟨gb289,0,none⟩) (Kd.R_types HO_258002.out BK289.out (by decide)) (fun _ hk=>hk.2) (.int .i64 t267)) (fun _ hk=>hk.2) (.int .i64 t268)) (fun _ hk=>hk.2) (.slice Ao33 t269.length co33)) (fun _ hk=>hk.2) (.int .i64 (wrap64 (t267 + (wrap64 (t252 * (wrap64 (a3)))))))) (fun _ h_=>h_.1))))) (rl (by (with_reducible repeat (first|apply ra|apply rb|apply rc));exact (rm (Kd.R_far (p:=⟨gb289,0,none⟩) (Kd.R_far (p:=⟨gb289,2,none⟩) (Kd.R_far (p:=⟨gb289,1,none⟩) (Kd.R_far (p:=⟨gb289,0,none⟩) (Kd.R_types HO_267002.out BK289.out (by decide)) (fun _ hk=>hk.2) (.int .i64 t267)) (fun _ hk=>hk.2) (.int .i64 t268)) (fun _ hk=>hk.2) (.slice Ao33 t269.length co33)) (fun _ hk=>hk.2) (.int .i64 (wrap64 (t267 + (wrap64 (t252 * (wrap64 (a3)))))))) (fun _ h_=>h_.1))))) (rl (by (with_reducible repeat (first|apply ra|apply rb|apply rc));exact (rm (Kd.R_far (p:=⟨gb289,0,none⟩) (Kd.R_far (p:=⟨gb289,2,none⟩) (Kd.R_far (p:=⟨gb289,1,none⟩) (Kd.R_far (p:=⟨gb289,0,none⟩) (Kd.R_types HO_274002.out BK289.out (by decide)) (fun _ hk=>hk.2) (.int .i64 t267)) (fun _ hk=>hk.2) (.int .i64 t268)) (fun _ hk=>hk.2) (.slice Ao33 t269.length co33)) (fun _ hk=>hk.2) (.int .i64 (wrap64 (t267 + (wrap64 (t252 * (wrap64 (a3)))))))) (fun _ h_=>h_.1))))) (rl (by (with_reducible repeat (first|apply ra|apply rb|apply rc));exact (rm (Kd.R_far (p:=⟨gb289,0,none⟩) (Kd.R_far (p:=⟨gb289,2,none⟩) (Kd.R_far (p:=⟨gb289,1,none⟩) (Kd.R_far (p:=⟨gb289,0,none⟩) (Kd.R_types HO_281002.out BK289.out (by decide)) (fun _ hk=>hk.2) (.int .i64 t267)) (fun _ hk=>hk.2) (.int .i64 t268)) (fun _ hk=>hk.2) (.slice Ao33 t269.length co33)) (fun _ hk=>hk.2) (.int .i64 (wrap64 (t267 + (wrap64 (t252 * (wrap64 (a3)))))))) (fun _ h_=>h_.1))))) (rl (by (with_reducible repeat (first|apply ra|apply rb|apply rc));exact (rm (Kd.R_far (p:=⟨gb289,0,none⟩) (Kd.R_far (p:=⟨gb289,2,none⟩) (Kd.R_far (p:=⟨gb289,1,none⟩) (Kd.R_far (p:=⟨gb289,0,none⟩) (Kd.R_types HO_288002.out BK289.out (by decide)) (fun _ hk=>hk.2) (.int .i64 t267)) (fun _ hk=>hk.2) (.int .i64 t268)) (fun _ hk=>hk.2) (.slice Ao33 t269.length co33)) (fun _ hk=>hk.2) (.int .i64 (wrap64 (t267 + (wrap64 (t252 * (wrap64 (a3)))))))) (fun _ h_=>h_.1))))) (below_size (by repeat (first|(with_reducible first|exact HB.out|apply ba|apply bb|apply bc|refine below_set ?_ GE257.out|refine below_set ?_ GE266.out|refine below_set ?_ GE273.out|refine below_set ?_ GE280.out|refine below_set ?_ GE287.out|refine below_set ?_ GE289.out)|exact HB.out))));have n6_:=A_ (blk_below (g:=gb257) (o:=.cells #[.int .i64 t251,.int .i64 t252,.slice Ao19 t253.length co19] 24 (0,0)) (by (with_reducible repeat (first|refine blk_drewN ?_ _|refine blk_drew ?_|refine blk_alloc ?_ _));refine blk_far ?_ NB257_289.out _;(with_reducible repeat (first|refine blk_drewN ?_ _|refine blk_drew ?_|refine blk_alloc ?_ _));refine blk_far ?_ NB257_289.out _;(with_reducible repeat (first|refine blk_drewN ?_ _|refine blk_drew ?_|refine blk_alloc ?_ _));refine blk_far ?_ NB257_289.out _;(with_reducible repeat (first|refine blk_drewN ?_ _|refine blk_drew ?_|refine blk_alloc ?_ _));refine blk_far ?_ NB257_289.out _;(with_reducible repeat (first|refine blk_drewN ?_ _|refine blk_drew ?_|refine blk_alloc ?_ _));exact BK257.out) hb);have n7_:=A_ (blk_below (g:=gb266) (o:=.cells #[.int .i64 t260,.int .i64 t261,.slice Ao25 t262.length co25] 24 (0,0)) (by (with_reducible repeat (first|refine blk_drewN ?_ _|refine blk_drew ?_|refine blk_alloc ?_ _));refine blk_far ?_ NB266_289.out _;(with_reducible repeat (first|refine blk_drewN ?_ _|refine blk_drew ?_|refine blk_alloc ?_ _));refine blk_far ?_ NB266_289.out _;(with_reducible repeat (first|refine blk_drewN ?_ _|refine blk_drew ?_|refine blk_alloc ?_ _));refine blk_far ?_ NB266_289.out _;(with_reducible repeat (first|refine blk_drewN ?_ _|refine blk_drew ?_|refine blk_alloc ?_ _));refine blk_far ?_ NB266_289.out _;(with_reducible repeat (first|refine blk_drewN ?_ _|refine blk_drew ?_|refine blk_alloc ?_ _));exact BK266.out) hb);have n8_:=A_ (blk_below (g:=gb273) (o:=.cells #[.int .i64 t267,.int .i64 t268,.slice Ao33 t269.length co33] 24 (0,0)) (by (with_reducible repeat (first|refine blk_drewN ?_ _|refine blk_drew ?_|refine blk_alloc ?_ _));refine blk_far ?_ NB273_289.out _;(with_reducible repeat (first|refine blk_drewN ?_ _|refine blk_drew ?_|refine blk_alloc ?_ _));refine blk_far ?_ NB273_289.out _;(with_reducible repeat (first|refine blk_drewN ?_ _|refine blk_drew ?_|refine blk_alloc ?_ _));refine blk_far ?_ NB273_289.out _;(with_reducible repeat (first|refine blk_drewN ?_ _|refine blk_drew ?_|refine blk_alloc ?_ _));refine blk_far ?_ NB273_289.out _;(with_reducible repeat (first|refine blk_drewN ?_ _|refine blk_drew ?_|refine blk_alloc ?_ _));exact BK273.out) hb);have n9_:=A_ (blk_below (g:=gb280) (o:=.cells #[.int .i64 t274,.int .i64 t275,.slice Ao42 t276.length co42] 24 (0,0)) (by (with_reducible repeat (first|refine blk_drewN ?_ _|refine blk_drew ?_|refine blk_alloc ?_ _));refine blk_far ?_ NB280_289.out _;(with_reducible repeat (first|refine blk_drewN ?_ _|refine blk_drew ?_|refine blk_alloc ?_ _));refine blk_far ?_ NB280_289.out _;(with_reducible repeat (first|refine blk_drewN ?_ _|refine blk_drew ?_|refine blk_alloc ?_ _));refine blk_far ?_ NB280_289.out _;(with_reducible repeat (first|refine blk_drewN ?_ _|refine blk_drew ?_|refine blk_alloc ?_ _));refine blk_far ?_ NB280_289.out _;(with_reducible repeat (first|refine blk_drewN ?_ _|refine blk_drew ?_|refine blk_alloc ?_ _));exact BK280.out) hb);have n10_:=A_ (blk_below (g:=gb287) (o:=.cells #[.int .i64 t281,.int .i64 t282,.slice Ao52 t283.length co52] 24 (0,0)) (by (with_reducible repeat (first|refine blk_drewN ?_ _|refine blk_drew ?_|refine blk_alloc ?_ _));refine blk_far ?_ NB287_289.out _;(with_reducible repeat (first|refine blk_drewN ?_ _|refine blk_drew ?_|refine blk_alloc ?_ _));refine blk_far ?_ NB287_289.out _;(with_reducible repeat (first|refine blk_drewN ?_ _|refine blk_drew ?_|refine blk_alloc ?_ _));refine blk_far ?_ NB287_289.out _;(with_reducible repeat (first|refine blk_drewN ?_ _|refine blk_drew ?_|refine blk_alloc ?_ _));refine blk_far ?_ NB287_289.out _;(with_reducible repeat (first|refine blk_drewN ?_ _|refine blk_drew ?_|refine blk_alloc ?_ _));exact BK287.out) hb);have n11_:=A_ (blk_below (g:=gb289) (o:=.cells #[.int .i64 (wrap64 (t267 + (wrap64 (t252 * (wrap64 (a3)))))),.int .i64 t268,.slice Ao33 t269.length co33] 24 (0,0)) (by (with_reducible repeat (first|refine blk_drewN ?_ _|refine blk_drew ?_|refine blk_alloc ?_ _));refine blk_put (cs:=#[.int .i64 t267,.int .i64 t268,.slice Ao33 t269.length co33]) ?_ 0 _ rfl;(with_reducible repeat (first|refine blk_drewN ?_ _|refine blk_drew ?_|refine blk_alloc ?_ _));refine blk_put (cs:=#[.int .i64 t267,.int .i64 t268,.slice none 0 0]) ?_ 2 _ rfl;(with_reducible repeat (first|refine blk_drewN ?_ _|refine blk_drew ?_|refine blk_alloc ?_ _));refine blk_put (cs:=#[.int .i64 t267,.int .i64 0,.slice none 0 0]) ?_ 1 _ rfl;(with_reducible repeat (first|refine blk_drewN ?_ _|refine blk_drew ?_|refine blk_alloc ?_ _));refine blk_put (cs:=#[.int .i64 0,.int .i64 0,.slice none 0 0]) ?_ 0 _ rfl;(with_reducible repeat (first|refine blk_drewN ?_ _|refine blk_drew ?_|refine blk_alloc ?_ _));exact BK289.out) hb);have n12_:=A_ (below_step (by repeat (first|(with_reducible first|exact HB.out|apply ba|apply bb|apply bc|refine below_set ?_ GE257.out|refine below_set ?_ GE266.out|refine below_set ?_ GE273.out|refine below_set ?_ GE280.out|refine below_set ?_ GE287.out|refine below_set ?_ GE289.out)|exact HB.out)) hb);clear HO_258002;clear HO_267002;clear HO_274002;clear HO_281002;clear HO_288002;clear BK257;clear BK266;clear BK273;clear BK280;clear BK287;clear BK289;clear HB;have HO_258002:=n0_;have HO_267002:=n1_;have HO_274002:=n2_;have HO_281002:=n3_;have HO_288002:=n4_;have HO294:=n5_;have BK257:=n6_;have BK266:=n7_;have BK273:=n8_;have BK280:=n9_;have BK287:=n10_;have BK289:=n11_;have HB:=n12_;clear n0_ n1_ n2_ n3_ n4_ n5_ n6_ n7_ n8_ n9_ n10_ n11_ n12_;(try clear hb);(try clear hb2);(try clear hk);(try clear hi);(try clear ho0))|((with_reducible refine gate_dst (N:=21) rfl ?_);(try (refine gate_guard (by rfl) ?_;dsimp only));refine box_event ?hg (N:=21) ?hd (cs:=#[.int .i64 0,.int .i64 0,.slice none 0 0]) (t:=24) ?hr ?_;(case hd=>rfl);(case hg=>rfl);(case hr=>first|(go_simp;done)|(go_simp;rfl));intro gb296 hg w93 hbox hb;have n0_:=A_ (rw_ (by (with_reducible repeat (first|apply ra|apply rb|apply rc));exact HO_258002.out) hb);have n1_:=A_ (rw_ (by (with_reducible repeat (first|apply ra|apply rb|apply rc));exact HO_267002.out) hb);have n2_:=A_ (rw_ (by (with_reducible repeat (first|apply ra|apply rb|apply rc));exact HO_274002.out) hb);have n3_:=A_ (rw_ (by (with_reducible repeat (first|apply ra|apply rb|apply rc));exact HO_281002.out) hb);have n4_:=A_ (rw_ (by (with_reducible repeat (first|apply ra|apply rb|apply rc));exact HO_288002.out) hb);have n5_:=A_ (rw_ (by (with_reducible repeat (first|apply ra|apply rb|apply rc));exact HO294.out) hb);have n6_:=A_ (blk_below (g:=gb257) (o:=.cells #[.int .i64 t251,.int .i64 t252,.slice Ao19 t253.length co19] 24 (0,0)) (by (with_reducible repeat (first|refine blk_drewN ?_ _|refine blk_drew ?_|refine blk_alloc ?_ _));exact BK257.out) hb);have n7_:=A_ (blk_below (g:=gb266) (o:=.cells #[.int .i64 t260,.int .i64 t261,.slice Ao25 t262.length co25] 24 (0,0)) (by (with_reducible repeat (first|refine blk_drewN ?_ _|refine blk_drew ?_|refine blk_alloc ?_ _));exact BK266.out) hb);have n8_:=A_ (blk_below (g:=gb273) (o:=.cells #[.int .i64 t267,.int .i64 t268,.slice Ao33 t269.length co33] 24 (0,0)) (by (with_reducible repeat (first|refine blk_drewN ?_ _|refine blk_drew ?_|refine blk_alloc ?_ _));exact BK273.out) hb);have n9_:=A_ (blk_below (g:=gb280) (o:=.cells #[.int .i64 t274,.int .i64 t275,.slice Ao42 t276.length co42] 24 (0,0)) (by (with_reducible repeat (first|refine blk_drewN ?_ _|refine blk_drew ?_|refine blk_alloc ?_ _));exact BK280.out) hb);have n10_:=A_ (blk_below (g:=gb287) (o:=.cells #[.int .i64 t281,.int .i64 t282,.slice Ao52 t283.length co52] 24 (0,0)) (by (with_reducible repeat (first|refine blk_drewN ?_ _|refine blk_drew ?_|refine blk_alloc ?_ _));exact BK287.out) hb);have n11_:=A_ (blk_below (g:=gb289) (o:=.cells #[.int .i64 (wrap64 (t267 + (wrap64 (t252 * (wrap64 (a3)))))),.int .i64 t268,.slice Ao33 t269.length co33] 24 (0,0)) (by (with_reducible repeat (first|refine blk_drewN ?_ _|refine blk_drew ?_|refine blk_alloc ?_ _));exact BK289.out) hb);have n12_:=A_ (below_step (by repeat (first|(with_reducible first|exact HB.out|apply ba|apply bb|apply bc|refine below_set ?_ GE257.out|refine below_set ?_ GE266.out|refine below_set ?_ GE273.out|refine below_set ?_ GE280.out|refine below_set ?_ GE287.out|refine below_set ?_ GE289.out)|exact HB.out)) hb);have n13_:=A_ (hbox);have n14_:=A_ ((by rw [hg];exact (below_size (by repeat (first|(with_reducible first|exact HB.out|apply ba|apply bb|apply bc|refine below_set ?_ GE257.out|refine below_set ?_ GE266.out|refine below_set ?_ GE273.out|refine below_set ?_ GE280.out|refine below_set ?_ GE287.out|refine below_set ?_ GE289.out)|exact HB.out))) : w.heap.size ≤ gb296));have n15_:=A_ ((by rw [hg];exact (below_size (by repeat (first|(with_reducible first|exact HB.out|apply ba|apply bb|apply bc|refine below_set ?_ GE257.out|refine below_set ?_ GE266.out|refine below_set ?_ GE273.out|refine below_set ?_ GE280.out|refine below_set ?_ GE287.out|refine below_set ?_ GE289.out)|exact HB.out))) : w.heap.size ≤ gb296));have n16_:=A_ ((by rw [hg];exact Nat.ne_of_lt (blk_lt (g:=gb257) (o:=.cells #[.int .i64 t251,.int .i64 t252,.slice Ao19 t253.length co19] 24 (0,0)) (by (with_reducible repeat (first|refine blk_drewN ?_ _|refine blk_drew ?_|refine blk_alloc ?_ _));exact BK257.out)) : gb257≠gb296));have n17_:=A_ ((by rw [hg];exact Nat.ne_of_gt (blk_lt (g:=gb257) (o:=.cells #[.int .i64 t251,.int .i64 t252,.slice Ao19 t253.length co19] 24 (0,0)) (by (with_reducible repeat (first|refine blk_drewN ?_ _|refine blk_drew ?_|refine blk_alloc ?_ _));exact BK257.out)) : gb296≠gb257));have n18_:=A_ ((by rw [hg];exact Nat.ne_of_lt (blk_lt (g:=gb266) (o:=.cells #[.int .i64 t260,.int .i64 t261,.slice Ao25 t262.length co25] 24 (0,0)) (by (with_reducible repeat (first|refine blk_drewN ?_ _|refine blk_drew ?_|refine blk_alloc ?_ _));exact BK266.out)) : gb266≠gb296));have n19_:=A_ ((by rw [hg];exact Nat.ne_of_gt (blk_lt (g:=gb266) (o:=.cells #[.int .i64 t260,.int .i64 t261,.slice Ao25 t262.length co25] 24 (0,0)) (by (with_reducible repeat (first|refine blk_drewN ?_ _|refine blk_drew ?_|refine blk_alloc ?_ _));exact BK266.out)) : gb296≠gb266));have n20_:=A_ ((by rw [hg];exact Nat.ne_of_lt (blk_lt (g:=gb273) (o:=.cells #[.int .i64 t267,.int .i64 t268,.slice Ao33 t269.length co33] 24 (0,0)) (by (with_reducible repeat (first|refine blk_drewN ?_ _|refine blk_drew ?_|refine blk_alloc ?_ _));exact BK273.out)) : gb273≠gb296));have n21_:=A_ ((by rw [hg];exact Nat.ne_of_gt (blk_lt (g:=gb273) (o:=.cells #[.int .i64 t267,.int .i64 t268,.slice Ao33 t269.length co33] 24 (0,0)) (by (with_reducible repeat (first|refine blk_drewN ?_ _|refine blk_drew ?_|refine blk_alloc ?_ _));exact BK273.out)) : gb296≠gb273));have n22_:=A_ ((by rw [hg];exact Nat.ne_of_lt (blk_lt (g:=gb280) (o:=.cells #[.int .i64 t274,.int .i64 t275,.slice Ao42 t276.length co42] 24 (0,0)) (by (with_reducible repeat (first|refine blk_drewN ?_ _|refine blk_drew ?_|refine blk_alloc ?_ _));exact BK280.out)) : gb280≠gb296));have n23_:=A_ ((by rw [hg];exact Nat.ne_of_gt (blk_lt (g:=gb280) (o:=.cells #[.int .i64 t274,.int .i64 t275,.slice Ao42 t276.length co42] 24 (0,0)) (by (with_reducible repeat (first|refine blk_drewN ?_ _|refine blk_drew ?_|refine blk_alloc ?_ _));exact BK280.out)) : gb296≠gb280));have n24_:=A_ ((by rw [hg];exact Nat.ne_of_lt (blk_lt (g:=gb287) (o:=.cells #[.int .i64 t281,.int .i64 t282,.slice Ao52 t283.length co52] 24 (0,0)) (by (with_reducible repeat (first|refine blk_drewN ?_ _|refine blk_drew ?_|refine blk_alloc ?_ _));exact BK287.out)) : gb287≠gb296));have n25_:=A_ ((by rw [hg];exact Nat.ne_of_gt (blk_lt (g:=gb287) (o:=.cells #[.int .i64 t281,.int .i64 t282,.slice Ao52 t283.length co52] 24 (0,0)) (by (with_reducible repeat (first|refine blk_drewN ?_ _|refine blk_drew ?_|refine blk_alloc ?_ _));exact BK287.out)) : gb296≠gb287));have n26_:=A_ ((by rw [hg];exact Nat.ne_of_lt (blk_lt (g:=gb289) (o:=.cells #[.int .i64 (wrap64 (t267 + (wrap64 (t252 * (wrap64 (a3)))))),.int .i64 t268,.slice Ao33 t269.length co33] 24 (0,0)) (by (with_reducible repeat (first|refine blk_drewN ?_ _|refine blk_drew ?_|refine blk_alloc ?_ _));exact BK289.out)) : gb289≠gb296));have n27_:=A_ ((by rw [hg];exact Nat.ne_of_gt (blk_lt (g:=gb289) (o:=.cells #[.int .i64 (wrap64 (t267 + (wrap64 (t252 * (wrap64 (a3)))))),.int .i64 t268,.slice Ao33 t269.length co33] 24 (0,0)) (by (with_reducible repeat (first|refine blk_drewN ?_ _|refine blk_drew ?_|refine blk_alloc ?_ _));exact BK289.out)) : gb296≠gb289));clear HO_258002;clear HO_267002;clear HO_274002;clear HO_281002;clear HO_288002;clear HO294;clear BK257;clear BK266;clear BK273;clear BK280;clear BK287;clear BK289;clear HB;have HO_258002:=n0_;have HO_267002:=n1_;have HO_274002:=n2_;have HO_281002:=n3_;have HO_288002:=n4_;have HO294:=n5_;have BK257:=n6_;have BK266:=n7_;have BK273:=n8_;have BK280:=n9_;have BK287:=n10_;have BK289:=n11_;have HB:=n12_;have BK296:=n13_;have GW296:=n14_;have GE296:=n15_;have NB257_296:=n16_;have NB296_257:=n17_;have NB266_296:=n18_;have NB296_266:=n19_;have NB273_296:=n20_;have NB296_273:=n21_;have NB280_296:=n22_;have NB296_280:=n23_;have NB287_296:=n24_;have NB296_287:=n25_;have NB289_296:=n26_;have NB296_289:=n27_;clear n0_ n1_ n2_ n3_ n4_ n5_ n6_ n7_ n8_ n9_ n10_ n11_ n12_ n13_ n14_ n15_ n16_ n17_ n18_ n19_ n20_ n21_ n22_ n23_ n24_ n25_ n26_ n27_;clear hb hbox hg;have hnb94:=NB296_257.out;have hnc94:=NB257_296.out;have hnb95:=NB296_266.out;have hnc95:=NB266_296.out;have hnb96:=NB296_273.out;have hnc96:=NB273_296.out;have hnb97:=NB296_280.out;have hnc97:=NB280_296.out;have hnb98:=NB296_287.out;have hnc98:=NB287_296.out;have hnb99:=NB296_289.out;have hnc99:=NB289_296.out;have hcz100_0 : w93.cell? ⟨gb296,0,none⟩ = some (.int .i64 0):=(blk_cell BK296.out 0).trans rfl;have hcz100_1 : w93.cell? ⟨gb296,1,none⟩ = some (.int .i64 0):=(blk_cell BK296.out 1).trans rfl;have hcz100_2 : w93.cell? ⟨gb296,2,none⟩ = some (.slice none 0 0):=(blk_cell BK296.out 2).trans rfl;have hfz100_0:=blk_frozen BK296.out 0;have hfz100_1:=blk_frozen BK296.out 1;have hfz100_2:=blk_frozen BK296.out 2;obtain ⟨Ao101,co101,eo101⟩:=Kd.R_slice HO294.out;subst eo101))
    (try simp only [Act.put,List.setIfInBounds_toArray,List.set_cons_zero,List.set_cons_succ])
    go_cut [120] (fun v120 wc=>∃ (kq : Nat) (x120_71 : Bool),v120 = .bool x120_71∧Aside0 (shapesearchlaw09_SeriesParts.j1 kq a3 t258 t259 x120_71 t260 t261 t262 (wrap64 (t267 + (wrap64 (t252 * (wrap64 (a3)))))) t268 t269 t290 t291 t292 = some r)∧Aside0 (kq ≤ kj12)∧Aside0 (Kd.R (Kd.int .i64) 3 wc w.heap.size (fun k_=>some k_≠((.slice Ao25 t262.length co25) : Value).ownBlock∧some k_≠((.slice Ao33 t269.length co33) : Value).ownBlock∧some k_≠((.slice Ao42 t276.length co42) : Value).ownBlock∧some k_≠((.slice Ao52 t283.length co52) : Value).ownBlock∧some k_≠((.slice Ao33 t269.length co33) : Value).ownBlock∧some k_≠((.slice Ao101 t292.length co101) : Value).ownBlock) (.slice Ao19 t253.length co19) t253)∧Aside0 (Kd.R (Kd.int .i64) 3 wc w.heap.size (fun k_=>some k_≠((.slice Ao19 t253.length co19) : Value).ownBlock∧some k_≠((.slice Ao33 t269.length co33) : Value).ownBlock∧some k_≠((.slice Ao42 t276.length co42) : Value).ownBlock∧some k_≠((.slice Ao52 t283.length co52) : Value).ownBlock∧some k_≠((.slice Ao33 t269.length co33) : Value).ownBlock∧some k_≠((.slice Ao101 t292.length co101) : Value).ownBlock) (.slice Ao25 t262.length co25) t262)∧Aside0 (Kd.R (Kd.int .i64) 3 wc w.heap.size (fun k_=>some k_≠((.slice Ao19 t253.length co19) : Value).ownBlock∧some k_≠((.slice Ao25 t262.length co25) : Value).ownBlock∧some k_≠((.slice Ao42 t276.length co42) : Value).ownBlock∧some k_≠((.slice Ao52 t283.length co52) : Value).ownBlock∧some k_≠((.slice Ao101 t292.length co101) : Value).ownBlock) (.slice Ao33 t269.length co33) t269)∧Aside0 (Kd.R (Kd.int .i64) 3 wc w.heap.size (fun k_=>some k_≠((.slice Ao19 t253.length co19) : Value).ownBlock∧some k_≠((.slice Ao25 t262.length co25) : Value).ownBlock∧some k_≠((.slice Ao33 t269.length co33) : Value).ownBlock∧some k_≠((.slice Ao52 t283.length co52) : Value).ownBlock∧some k_≠((.slice Ao33 t269.length co33) : Value).ownBlock∧some k_≠((.slice Ao101 t292.length co101) : Value).ownBlock) (.slice Ao42 t276.length co42) t276)∧Aside0 (Kd.R (Kd.int .i64) 3 wc w.heap.size (fun k_=>some k_≠((.slice Ao19 t253.length co19) : Value).ownBlock∧some k_≠((.slice Ao25 t262.length co25) : Value).ownBlock∧some k_≠((.slice Ao33 t269.length co33) : Value).ownBlock∧some k_≠((.slice Ao42 t276.length co42) : Value).ownBlock∧some k_≠((.slice Ao33 t269.length co33) : Value).ownBlock∧some k_≠((.slice Ao101 t292.length co101) : Value).ownBlock) (.slice Ao52 t283.length co52) t283)∧Aside0 (Kd.R (Kd.int .i64) 3 wc w.heap.size (fun k_=>some k_≠((.slice Ao19 t253.length co19) : Value).ownBlock∧some k_≠((.slice Ao25 t262.length co25) : Value).ownBlock∧some k_≠((.slice Ao42 t276.length co42) : Value).ownBlock∧some k_≠((.slice Ao52 t283.length co52) : Value).ownBlock∧some k_≠((.slice Ao101 t292.length co101) : Value).ownBlock) (.slice Ao33 t269.length co33) t269)∧Aside0 (Kd.R (Kd.int .i64) 3 wc w.heap.size (fun k_=>some k_≠((.slice Ao19 t253.length co19) : Value).ownBlock∧some k_≠((.slice Ao25 t262.length co25) : Value).ownBlock∧some k_≠((.slice Ao33 t269.length co33) : Value).ownBlock∧some k_≠((.slice Ao42 t276.length co42) : Value).ownBlock∧some k_≠((.slice Ao52 t283.length co52) : Value).ownBlock∧some k_≠((.slice Ao33 t269.length co33) : Value).ownBlock) (.slice Ao101 t292.length co101) t292)∧Aside0 (wc.heap[gb257]? = some (.cells #[.int .i64 t251,.int .i64 t252,(.slice Ao19 t253.length co19)] 24 (0,0)))∧Aside0 (wc.heap[gb266]? = some (.cells #[.int .i64 t260,.int .i64 t261,(.slice Ao25 t262.length co25)] 24 (0,0)))∧Aside0 (wc.heap[gb273]? = some (.cells #[.int .i64 t267,.int .i64 t268,(.slice Ao33 t269.length co33)] 24 (0,0)))∧Aside0 (wc.heap[gb280]? = some (.cells #[.int .i64 t274,.int .i64 t275,(.slice Ao42 t276.length co42)] 24 (0,0)))∧Aside0 (wc.heap[gb287]? = some (.cells #[.int .i64 t281,.int .i64 t282,(.slice Ao52 t283.length co52)] 24 (0,0)))∧Aside0 (wc.heap[gb289]? = some (.cells #[.int .i64 (wrap64 (t267 + (wrap64 (t252 * (wrap64 (a3)))))),.int .i64 t268,(.slice Ao33 t269.length co33)] 24 (0,0)))∧Aside0 (wc.heap[gb296]? = some (.cells #[.int .i64 t290,.int .i64 t291,(.slice Ao101 t292.length co101)] 24 (0,0)))∧Aside0 (Below w.heap.size w wc))
    case first =>
     have H:=HC72.out
     clear HC72
     by_cases c102 : t295 = 0
     ·
      rw [if_pos c102] at H
      have c102b0 : (t295 == 0) = true:=beq_iff_eq.mpr c102
      have c102b1 : (t295 != 0) = false:=bne_eq_false_iff_eq.mpr c102
      clear c102
      (first|rw [c102b0]|(simp only [i64_w,i32_w];rw [c102b0])|skip)
      have H':=A_ H
      clear H
      have hnb103:=NB296_257.out
      have hnc103:=NB257_296.out
      have hnb104:=NB296_266.out
      have hnc104:=NB266_296.out
      have hnb105:=NB296_273.out
      have hnc105:=NB273_296.out
      have hnb106:=NB296_280.out
      have hnc106:=NB280_296.out
      have hnb107:=NB296_287.out
      have hnc107:=NB287_296.out
      have hnb108:=NB296_289.out
      have hnc108:=NB289_296.out
      have hcz109_0 : w93.cell? ⟨gb296,0,none⟩ = some (.int .i64 0):=(blk_cell BK296.out 0).trans rfl
      have hcz109_1 : w93.cell? ⟨gb296,1,none⟩ = some (.int .i64 0):=(blk_cell BK296.out 1).trans rfl
      have hcz109_2 : w93.cell? ⟨gb296,2,none⟩ = some (.slice none 0 0):=(blk_cell BK296.out 2).trans rfl
      have hfz109_0:=blk_frozen BK296.out 0
      have hfz109_1:=blk_frozen BK296.out 1
      have hfz109_2:=blk_frozen BK296.out 2
      go_wp2
      go_meet
      case rel=>exact ⟨_,(((t292.length : Int) != (wrap64 ((wrap64 (t258 + (wrap64 (a3)))) + t259)))),(by first|rfl|(simp;done)|(simp [*];done)),H',⟨by have:=HJ12.out;first|omega|exact Nat.le_refl _⟩,⟨by (with_reducible repeat (first|apply ra|apply rb|apply rc));exact rm (Kd.R_far (p:=⟨gb296,2,none⟩) (Kd.R_far (p:=⟨gb296,1,none⟩) (Kd.R_far (p:=⟨gb296,0,none⟩) (Kd.R_types HO_258002.out BK296.out (by decide)) (fun _ hk=>hk.2) (.int .i64 t290)) (fun _ hk=>hk.2) (.int .i64 t291)) (fun _ hk=>hk.2) (.slice Ao101 t292.length co101)) (fun _ hk=>⟨hk.1.1.1,⟨hk.1.1.2.1,⟨hk.1.1.2.2.1,⟨hk.1.1.2.2.2,⟨hk.1.1.2.1,hk.1.2⟩⟩⟩⟩⟩)⟩,⟨by (with_reducible repeat (first|apply ra|apply rb|apply rc));exact rm (Kd.R_far (p:=⟨gb296,2,none⟩) (Kd.R_far (p:=⟨gb296,1,none⟩) (Kd.R_far (p:=⟨gb296,0,none⟩) (Kd.R_types HO_267002.out BK296.out (by decide)) (fun _ hk=>hk.2) (.int .i64 t290)) (fun _ hk=>hk.2) (.int .i64 t291)) (fun _ hk=>hk.2) (.slice Ao101 t292.length co101)) (fun _ hk=>⟨hk.1.1.1,⟨hk.1.1.2.1,⟨hk.1.1.2.2.1,⟨hk.1.1.2.2.2,⟨hk.1.1.2.1,hk.1.2⟩⟩⟩⟩⟩)⟩,⟨by (with_reducible repeat (first|apply ra|apply rb|apply rc));exact rm (Kd.R_far (p:=⟨gb296,2,none⟩) (Kd.R_far (p:=⟨gb296,1,none⟩) (Kd.R_far (p:=⟨gb296,0,none⟩) (Kd.R_types HO_274002.out BK296.out (by decide)) (fun _ hk=>hk.2) (.int .i64 t290)) (fun _ hk=>hk.2) (.int .i64 t291)) (fun _ hk=>hk.2) (.slice Ao101 t292.length co101)) (fun _ hk=>⟨hk.1.1.1,⟨hk.1.1.2.1,⟨hk.1.1.2.2.1,⟨hk.1.1.2.2.2,hk.1.2⟩⟩⟩⟩)⟩,⟨by (with_reducible repeat (first|apply ra|apply rb|apply rc));exact rm (Kd.R_far (p:=⟨gb296,2,none⟩) (Kd.R_far (p:=⟨gb296,1,none⟩) (Kd.R_far (p:=⟨gb296,0,none⟩) (Kd.R_types HO_281002.out BK296.out (by decide)) (fun _ hk=>hk.2) (.int .i64 t290)) (fun _ hk=>hk.2) (.int .i64 t291)) (fun _ hk=>hk.2) (.slice Ao101 t292.length co101)) (fun _ hk=>⟨hk.1.1.1,⟨hk.1.1.2.1,⟨hk.1.1.2.2.1,⟨hk.1.1.2.2.2,⟨hk.1.1.2.2.1,hk.1.2⟩⟩⟩⟩⟩)⟩,⟨by (with_reducible repeat (first|apply ra|apply rb|apply rc));exact rm (Kd.R_far (p:=⟨gb296,2,none⟩) (Kd.R_far (p:=⟨gb296,1,none⟩) (Kd.R_far (p:=⟨gb296,0,none⟩) (Kd.R_types HO_288002.out BK296.out (by decide)) (fun _ hk=>hk.2) (.int .i64 t290)) (fun _ hk=>hk.2) (.int .i64 t291)) (fun _ hk=>hk.2) (.slice Ao101 t292.length co101)) (fun _ hk=>⟨hk.1.1.1,⟨hk.1.1.2.1,⟨hk.1.1.2.2.1,⟨hk.1.1.2.2.2,⟨hk.1.1.2.2.1,hk.1.2⟩⟩⟩⟩⟩)⟩,⟨by (with_reducible repeat (first|apply ra|apply rb|apply rc));exact rm (Kd.R_far (p:=⟨gb296,2,none⟩) (Kd.R_far (p:=⟨gb296,1,none⟩) (Kd.R_far (p:=⟨gb296,0,none⟩) (Kd.R_types HO_274002.out BK296.out (by decide)) (fun _ hk=>hk.2) (.int .i64 t290)) (fun _ hk=>hk.2) (.int .i64 t291)) (fun _ hk=>hk.2) (.slice Ao101 t292.length co101)) (fun _ hk=>⟨hk.1.1.1,⟨hk.1.1.2.1,⟨hk.1.1.2.2.1,⟨hk.1.1.2.2.2,hk.1.2⟩⟩⟩⟩)⟩,⟨by (with_reducible repeat (first|apply ra|apply rb|apply rc));exact rm (Kd.R_far (p:=⟨gb296,2,none⟩) (Kd.R_far (p:=⟨gb296,1,none⟩) (Kd.R_far (p:=⟨gb296,0,none⟩) (Kd.R_types HO294.out BK296.out (by decide)) (fun _ hk=>hk.2) (.int .i64 t290)) (fun _ hk=>hk.2) (.int .i64 t291)) (fun _ hk=>hk.2) (.slice Ao101 t292.length co101)) (fun _ hk=>⟨hk.1.1.1.1.1.2,⟨hk.1.1.1.1.2,⟨hk.1.1.1.2,⟨hk.1.1.2,⟨hk.1.2,hk.1.1.1.2⟩⟩⟩⟩⟩)⟩,⟨by (with_reducible repeat (first|refine blk_drewN ?_ _|refine blk_drew ?_|refine blk_alloc ?_ _));refine blk_far ?_ NB257_296.out _;(with_reducible repeat (first|refine blk_drewN ?_ _|refine blk_drew ?_|refine blk_alloc ?_ _));refine blk_far ?_ NB257_296.out _;(with_reducible repeat (first|refine blk_drewN ?_ _|refine blk_drew ?_|refine blk_alloc ?_ _));refine blk_far ?_ NB257_296.out _;(with_reducible repeat (first|refine blk_drewN ?_ _|refine blk_drew ?_|refine blk_alloc ?_ _));exact BK257.out⟩,⟨by (with_reducible repeat (first|refine blk_drewN ?_ _|refine blk_drew ?_|refine blk_alloc ?_ _));refine blk_far ?_ NB266_296.out _;(with_reducible repeat (first|refine blk_drewN ?_ _|refine blk_drew ?_|refine blk_alloc ?_ _));refine blk_far ?_ NB266_296.out _;(with_reducible repeat (first|refine blk_drewN ?_ _|refine blk_drew ?_|refine blk_alloc ?_ _));refine blk_far ?_ NB266_296.out _;(with_reducible repeat (first|refine blk_drewN ?_ _|refine blk_drew ?_|refine blk_alloc ?_ _));exact BK266.out⟩,⟨by (with_reducible repeat (first|refine blk_drewN ?_ _|refine blk_drew ?_|refine blk_alloc ?_ _));refine blk_far ?_ NB273_296.out _;(with_reducible repeat (first|refine blk_drewN ?_ _|refine blk_drew ?_|refine blk_alloc ?_ _));refine blk_far ?_ NB273_296.out _;(with_reducible repeat (first|refine blk_drewN ?_ _|refine blk_drew ?_|refine blk_alloc ?_ _));refine blk_far ?_ NB273_296.out _;(with_reducible repeat (first|refine blk_drewN ?_ _|refine blk_drew ?_|refine blk_alloc ?_ _));exact BK273.out⟩,⟨by (with_reducible repeat (first|refine blk_drewN ?_ _|refine blk_drew ?_|refine blk_alloc ?_ _));refine blk_far ?_ NB280_296.out _;(with_reducible repeat (first|refine blk_drewN ?_ _|refine blk_drew ?_|refine blk_alloc ?_ _));refine blk_far ?_ NB280_296.out _;(with_reducible repeat (first|refine blk_drewN ?_ _|refine blk_drew ?_|refine blk_alloc ?_ _));refine blk_far ?_ NB280_296.out _;(with_reducible repeat (first|refine blk_drewN ?_ _|refine blk_drew ?_|refine blk_alloc ?_ _));exact BK280.out⟩,⟨by (with_reducible repeat (first|refine blk_drewN ?_ _|refine blk_drew ?_|refine blk_alloc ?_ _));refine blk_far ?_ NB287_296.out _;(with_reducible repeat (first|refine blk_drewN ?_ _|refine blk_drew ?_|refine blk_alloc ?_ _));refine blk_far ?_ NB287_296.out _;(with_reducible repeat (first|refine blk_drewN ?_ _|refine blk_drew ?_|refine blk_alloc ?_ _));refine blk_far ?_ NB287_296.out _;(with_reducible repeat (first|refine blk_drewN ?_ _|refine blk_drew ?_|refine blk_alloc ?_ _));exact BK287.out⟩,⟨by (with_reducible repeat (first|refine blk_drewN ?_ _|refine blk_drew ?_|refine blk_alloc ?_ _));refine blk_far ?_ NB289_296.out _;(with_reducible repeat (first|refine blk_drewN ?_ _|refine blk_drew ?_|refine blk_alloc ?_ _));refine blk_far ?_ NB289_296.out _;(with_reducible repeat (first|refine blk_drewN ?_ _|refine blk_drew ?_|refine blk_alloc ?_ _));refine blk_far ?_ NB289_296.out _;(with_reducible repeat (first|refine blk_drewN ?_ _|refine blk_drew ?_|refine blk_alloc ?_ _));exact BK289.out⟩,⟨by (with_reducible repeat (first|refine blk_drewN ?_ _|refine blk_drew ?_|refine blk_alloc ?_ _));refine blk_put (cs:=#[.int .i64 t290,.int .i64 t291,.slice none 0 0]) ?_ 2 _ rfl;(with_reducible repeat (first|refine blk_drewN ?_ _|refine blk_drew ?_|refine blk_alloc ?_ _));refine blk_put (cs:=#[.int .i64 t290,.int .i64 0,.slice none 0 0]) ?_ 1 _ rfl;(with_reducible repeat (first|refine blk_drewN ?_ _|refine blk_drew ?_|refine blk_alloc ?_ _));refine blk_put (cs:=#[.int .i64 0,.int .i64 0,.slice none 0 0]) ?_ 0 _ rfl;(with_reducible repeat (first|refine blk_drewN ?_ _|refine blk_drew ?_|refine blk_alloc ?_ _));exact BK296.out⟩,⟨by repeat (first|(with_reducible first|exact HB.out|apply ba|apply bb|apply bc|refine below_set ?_ GE257.out|refine below_set ?_ GE266.out|refine below_set ?_ GE273.out|refine below_set ?_ GE280.out|refine below_set ?_ GE287.out|refine below_set ?_ GE289.out|refine below_set ?_ GE296.out)|exact HB.out)⟩⟩
     ·
      rw [if_neg c102] at H
      have c102b0 : (t295 == 0) = false:=beq_eq_false_iff_ne.mpr c102
      have c102b1 : (t295 != 0) = true:=bne_iff_ne.mpr c102
      (first|rw [c102b0]|(simp only [i64_w,i32_w];rw [c102b0])|skip)
      have H':=A_ H
      clear H
      go_wp2
      go_meet
      case rel=>exact ⟨_,(true),(by first|rfl|(simp;done)|(simp [*];done)),H',⟨by have:=HJ12.out;first|omega|exact Nat.le_refl _⟩,⟨by (with_reducible repeat (first|apply ra|apply rb|apply rc));exact rm (Kd.R_far (p:=⟨gb296,2,none⟩) (Kd.R_far (p:=⟨gb296,1,none⟩) (Kd.R_far (p:=⟨gb296,0,none⟩) (Kd.R_types HO_258002.out BK296.out (by decide)) (fun _ hk=>hk.2) (.int .i64 t290)) (fun _ hk=>hk.2) (.int .i64 t291)) (fun _ hk=>hk.2) (.slice Ao101 t292.length co101)) (fun _ hk=>⟨hk.1.1.1,⟨hk.1.1.2.1,⟨hk.1.1.2.2.1,⟨hk.1.1.2.2.2,⟨hk.1.1.2.1,hk.1.2⟩⟩⟩⟩⟩)⟩,⟨by (with_reducible repeat (first|apply ra|apply rb|apply rc));exact rm (Kd.R_far (p:=⟨gb296,2,none⟩) (Kd.R_far (p:=⟨gb296,1,none⟩) (Kd.R_far (p:=⟨gb296,0,none⟩) (Kd.R_types HO_267002.out BK296.out (by decide)) (fun _ hk=>hk.2) (.int .i64 t290)) (fun _ hk=>hk.2) (.int .i64 t291)) (fun _ hk=>hk.2) (.slice Ao101 t292.length co101)) (fun _ hk=>⟨hk.1.1.1,⟨hk.1.1.2.1,⟨hk.1.1.2.2.1,⟨hk.1.1.2.2.2,⟨hk.1.1.2.1,hk.1.2⟩⟩⟩⟩⟩)⟩,⟨by (with_reducible repeat (first|apply ra|apply rb|apply rc));exact rm (Kd.R_far (p:=⟨gb296,2,none⟩) (Kd.R_far (p:=⟨gb296,1,none⟩) (Kd.R_far (p:=⟨gb296,0,none⟩) (Kd.R_types HO_274002.out BK296.out (by decide)) (fun _ hk=>hk.2) (.int .i64 t290)) (fun _ hk=>hk.2) (.int .i64 t291)) (fun _ hk=>hk.2) (.slice Ao101 t292.length co101)) (fun _ hk=>⟨hk.1.1.1,⟨hk.1.1.2.1,⟨hk.1.1.2.2.1,⟨hk.1.1.2.2.2,hk.1.2⟩⟩⟩⟩)⟩,⟨by (with_reducible repeat (first|apply ra|apply rb|apply rc));exact rm (Kd.R_far (p:=⟨gb296,2,none⟩) (Kd.R_far (p:=⟨gb296,1,none⟩) (Kd.R_far (p:=⟨gb296,0,none⟩) (Kd.R_types HO_281002.out BK296.out (by decide)) (fun _ hk=>hk.2) (.int .i64 t290)) (fun _ hk=>hk.2) (.int .i64 t291)) (fun _ hk=>hk.2) (.slice Ao101 t292.length co101)) (fun _ hk=>⟨hk.1.1.1,⟨hk.1.1.2.1,⟨hk.1.1.2.2.1,⟨hk.1.1.2.2.2,⟨hk.1.1.2.2.1,hk.1.2⟩⟩⟩⟩⟩)⟩,⟨by (with_reducible repeat (first|apply ra|apply rb|apply rc));exact rm (Kd.R_far (p:=⟨gb296,2,none⟩) (Kd.R_far (p:=⟨gb296,1,none⟩) (Kd.R_far (p:=⟨gb296,0,none⟩) (Kd.R_types HO_288002.out BK296.out (by decide)) (fun _ hk=>hk.2) (.int .i64 t290)) (fun _ hk=>hk.2) (.int .i64 t291)) (fun _ hk=>hk.2) (.slice Ao101 t292.length co101)) (fun _ hk=>⟨hk.1.1.1,⟨hk.1.1.2.1,⟨hk.1.1.2.2.1,⟨hk.1.1.2.2.2,⟨hk.1.1.2.2.1,hk.1.2⟩⟩⟩⟩⟩)⟩,⟨by (with_reducible repeat (first|apply ra|apply rb|apply rc));exact rm (Kd.R_far (p:=⟨gb296,2,none⟩) (Kd.R_far (p:=⟨gb296,1,none⟩) (Kd.R_far (p:=⟨gb296,0,none⟩) (Kd.R_types HO_274002.out BK296.out (by decide)) (fun _ hk=>hk.2) (.int .i64 t290)) (fun _ hk=>hk.2) (.int .i64 t291)) (fun _ hk=>hk.2) (.slice Ao101 t292.length co101)) (fun _ hk=>⟨hk.1.1.1,⟨hk.1.1.2.1,⟨hk.1.1.2.2.1,⟨hk.1.1.2.2.2,hk.1.2⟩⟩⟩⟩)⟩,⟨by (with_reducible repeat (first|apply ra|apply rb|apply rc));exact rm (Kd.R_far (p:=⟨gb296,2,none⟩) (Kd.R_far (p:=⟨gb296,1,none⟩) (Kd.R_far (p:=⟨gb296,0,none⟩) (Kd.R_types HO294.out BK296.out (by decide)) (fun _ hk=>hk.2) (.int .i64 t290)) (fun _ hk=>hk.2) (.int .i64 t291)) (fun _ hk=>hk.2) (.slice Ao101 t292.length co101)) (fun _ hk=>⟨hk.1.1.1.1.1.2,⟨hk.1.1.1.1.2,⟨hk.1.1.1.2,⟨hk.1.1.2,⟨hk.1.2,hk.1.1.1.2⟩⟩⟩⟩⟩)⟩,⟨by (with_reducible repeat (first|refine blk_drewN ?_ _|refine blk_drew ?_|refine blk_alloc ?_ _));refine blk_far ?_ NB257_296.out _;(with_reducible repeat (first|refine blk_drewN ?_ _|refine blk_drew ?_|refine blk_alloc ?_ _));refine blk_far ?_ NB257_296.out _;(with_reducible repeat (first|refine blk_drewN ?_ _|refine blk_drew ?_|refine blk_alloc ?_ _));refine blk_far ?_ NB257_296.out _;(with_reducible repeat (first|refine blk_drewN ?_ _|refine blk_drew ?_|refine blk_alloc ?_ _));exact BK257.out⟩,⟨by (with_reducible repeat (first|refine blk_drewN ?_ _|refine blk_drew ?_|refine blk_alloc ?_ _));refine blk_far ?_ NB266_296.out _;(with_reducible repeat (first|refine blk_drewN ?_ _|refine blk_drew ?_|refine blk_alloc ?_ _));refine blk_far ?_ NB266_296.out _;(with_reducible repeat (first|refine blk_drewN ?_ _|refine blk_drew ?_|refine blk_alloc ?_ _));refine blk_far ?_ NB266_296.out _;(with_reducible repeat (first|refine blk_drewN ?_ _|refine blk_drew ?_|refine blk_alloc ?_ _));exact BK266.out⟩,⟨by (with_reducible repeat (first|refine blk_drewN ?_ _|refine blk_drew ?_|refine blk_alloc ?_ _));refine blk_far ?_ NB273_296.out _;(with_reducible repeat (first|refine blk_drewN ?_ _|refine blk_drew ?_|refine blk_alloc ?_ _));refine blk_far ?_ NB273_296.out _;(with_reducible repeat (first|refine blk_drewN ?_ _|refine blk_drew ?_|refine blk_alloc ?_ _));refine blk_far ?_ NB273_296.out _;(with_reducible repeat (first|refine blk_drewN ?_ _|refine blk_drew ?_|refine blk_alloc ?_ _));exact BK273.out⟩,⟨by (with_reducible repeat (first|refine blk_drewN ?_ _|refine blk_drew ?_|refine blk_alloc ?_ _));refine blk_far ?_ NB280_296.out _;(with_reducible repeat (first|refine blk_drewN ?_ _|refine blk_drew ?_|refine blk_alloc ?_ _));refine blk_far ?_ NB280_296.out _;(with_reducible repeat (first|refine blk_drewN ?_ _|refine blk_drew ?_|refine blk_alloc ?_ _));refine blk_far ?_ NB280_296.out _;(with_reducible repeat (first|refine blk_drewN ?_ _|refine blk_drew ?_|refine blk_alloc ?_ _));exact BK280.out⟩,⟨by (with_reducible repeat (first|refine blk_drewN ?_ _|refine blk_drew ?_|refine blk_alloc ?_ _));refine blk_far ?_ NB287_296.out _;(with_reducible repeat (first|refine blk_drewN ?_ _|refine blk_drew ?_|refine blk_alloc ?_ _));refine blk_far ?_ NB287_296.out _;(with_reducible repeat (first|refine blk_drewN ?_ _|refine blk_drew ?_|refine blk_alloc ?_ _));refine blk_far ?_ NB287_296.out _;(with_reducible repeat (first|refine blk_drewN ?_ _|refine blk_drew ?_|refine blk_alloc ?_ _));exact BK287.out⟩,⟨by (with_reducible repeat (first|refine blk_drewN ?_ _|refine blk_drew ?_|refine blk_alloc ?_ _));refine blk_far ?_ NB289_296.out _;(with_reducible repeat (first|refine blk_drewN ?_ _|refine blk_drew ?_|refine blk_alloc ?_ _));refine blk_far ?_ NB289_296.out _;(with_reducible repeat (first|refine blk_drewN ?_ _|refine blk_drew ?_|refine blk_alloc ?_ _));refine blk_far ?_ NB289_296.out _;(with_reducible repeat (first|refine blk_drewN ?_ _|refine blk_drew ?_|refine blk_alloc ?_ _));exact BK289.out⟩,⟨by (with_reducible repeat (first|refine blk_drewN ?_ _|refine blk_drew ?_|refine blk_alloc ?_ _));refine blk_put (cs:=#[.int .i64 t290,.int .i64 t291,.slice none 0 0]) ?_ 2 _ rfl;(with_reducible repeat (first|refine blk_drewN ?_ _|refine blk_drew ?_|refine blk_alloc ?_ _));refine blk_put (cs:=#[.int .i64 t290,.int .i64 0,.slice none 0 0]) ?_ 1 _ rfl;(with_reducible repeat (first|refine blk_drewN ?_ _|refine blk_drew ?_|refine blk_alloc ?_ _));refine blk_put (cs:=#[.int .i64 0,.int .i64 0,.slice none 0 0]) ?_ 0 _ rfl;(with_reducible repeat (first|refine blk_drewN ?_ _|refine blk_drew ?_|refine blk_alloc ?_ _));exact BK296.out⟩,⟨by repeat (first|(with_reducible first|exact HB.out|apply ba|apply bb|apply bc|refine below_set ?_ GE257.out|refine below_set ?_ GE266.out|refine below_set ?_ GE273.out|refine below_set ?_ GE280.out|refine below_set ?_ GE287.out|refine below_set ?_ GE289.out|refine below_set ?_ GE296.out)|exact HB.out)⟩⟩
    case rest =>
     clear HC72
     try clear c1
     try clear c2
     try clear p2
     try clear c3
     try clear c4
     try clear c5
     try clear c6
     try clear p6
     try clear c7
     try clear c8
     try clear c9
     try clear c10
     try clear c17
     try clear c18
     try clear c20
     try clear c22
     try clear c23
     try clear c29
     try clear c30
     try clear c31
     try clear c37
     try clear c38
     try clear c39
     try clear c40
     try clear c46
     try clear c47
     try clear c48
     try clear c49
     try clear c50
     try clear c53
     try clear c53b0
     try clear c53b1
     try clear c54
     try clear c54b0
     try clear c54b1
     try clear c55
     try clear c55b0
     try clear c55b1
     try clear c56
     try clear c56b0
     try clear c56b1
     try clear c58
     try clear c59
     try clear c60
     try clear c61
     try clear c62
     try clear c64
     try clear p64
     try clear c65
     try clear c66
     try clear c67
     try clear c70
     try clear c73
     try clear c74
     try clear c75
     try clear c76
     try clear c79
     try clear c80
     try clear c81
     try clear c82
     try clear c83
     try clear c85
     try clear c86
     try clear c87
     try clear c89
     try clear c90
     try clear c94
     try clear c95
     try clear c96
     try clear c97
     try clear c98
     try clear c99
     try clear c102
     try clear c102b0
     try clear c102b1
     try clear c103
     try clear c104
     try clear c105
     try clear c106
     try clear c107
     try clear c108
     try clear hcz100_0
     try clear hcz100_1
     try clear hcz100_2
     try clear hcz109_0
     try clear hcz109_1
     try clear hcz109_2
     try clear hcz18_0
     try clear hcz18_1
     try clear hcz18_2
     try clear hcz24_0
     try clear hcz24_1
     try clear hcz24_2
     try clear hcz26_0
     try clear hcz26_1
     try clear hcz26_2
     try clear hcz32_0
     try clear hcz32_1
     try clear hcz32_2
     try clear hcz34_0
     try clear hcz34_1
     try clear hcz34_2
     try clear hcz41_0
     try clear hcz41_1
     try clear hcz41_2
     try clear hcz43_0
     try clear hcz43_1
     try clear hcz43_2
     try clear hcz51_0
     try clear hcz51_1
     try clear hcz51_2
     try clear hcz63_0
     try clear hcz63_1
     try clear hcz63_2
     try clear hcz68_0
     try clear hcz68_1
     try clear hcz68_2
     try clear hcz77_0
     try clear hcz77_1
     try clear hcz77_2
     try clear hcz84_0
     try clear hcz84_1
     try clear hcz84_2
     try clear hcz88_0
     try clear hcz88_1
     try clear hcz88_2
     try clear hcz91_0
     try clear hcz91_1
     try clear hcz91_2
     try clear hfz100_0
     try clear hfz100_1
     try clear hfz100_2
     try clear hfz109_0
     try clear hfz109_1
     try clear hfz109_2
     try clear hfz18_0
     try clear hfz18_1
     try clear hfz18_2
     try clear hfz24_0
     try clear hfz24_1
     try clear hfz24_2
     try clear hfz26_0
     try clear hfz26_1
     try clear hfz26_2
     try clear hfz32_0
     try clear hfz32_1
     try clear hfz32_2
     try clear hfz34_0
     try clear hfz34_1
     try clear hfz34_2
     try clear hfz41_0
     try clear hfz41_1
     try clear hfz41_2
     try clear hfz43_0
     try clear hfz43_1
     try clear hfz43_2
     try clear hfz51_0
     try clear hfz51_1
     try clear hfz51_2
     try clear hfz63_0
     try clear hfz63_1
     try clear hfz63_2
     try clear hfz68_0
     try clear hfz68_1
     try clear hfz68_2
     try clear hfz77_0
     try clear hfz77_1
     try clear hfz77_2
     try clear hfz84_0
     try clear hfz84_1
     try clear hfz84_2
     try clear hfz88_0
     try clear hfz88_1
     try clear hfz88_2
     try clear hfz91_0
     try clear hfz91_1
     try clear hfz91_2
     try clear p2
     try clear p6
     try clear p64
     obtain ⟨kq,x120_71,rfl,HA,HJ71,HO_258002,HO_267002,HO_274002,HO_281002,HO_288002,HO_290002,HO_297002,BK257,BK266,BK273,BK280,BK287,BK289,BK296,HB⟩:=hcut
     cases kq with
     | zero=>exact absurd HA.out (by simp [shapesearchlaw09_SeriesParts.j1])
     | succ kj71 =>
      have H:=HA.out
      clear HA
      simp only [shapesearchlaw09_SeriesParts.j1] at H
      by_cases c110 : x120_71 = true
      ·
       subst c110
       have H1 : (some false) = some r:=by rw [if_pos rfl] at H;exact H
       clear H
       have H:=H1
       clear H1
       exact absurd ((Option.some.inj H).trans HT_.out) (by decide)
      ·
       replace c110:=Bool.eq_false_iff.mpr c110
       subst c110
       have H1 : ((series_Cut.f kj71 t290 t291 t292 (wrap64 (t258 + (wrap64 (a3)))) t259).bind fun bt297=>(if bt297.2.2.2 = 0 then ((shapesearchref09_Same.f kj71 bt297.1 bt297.2.1 bt297.2.2.1 (wrap64 (t267 + (wrap64 (t252 * (wrap64 (a3)))))) t268 t269).bind fun t304=>(if t304 = true then ((series_Starts.f kj71 t290 t291 t292 1).bind fun t305=>((series_Starts.f kj71 t260 t261 t262 1).bind fun t308=>((series_Starts.f kj71 (wrap64 (t267 + (wrap64 (t252 * (wrap64 (a3)))))) t268 t269 1).bind fun t311=>(if (t305.length : Int) = (wrap64 ((t308.length : Int) + (t311.length : Int))) then ((shapesearchlaw09_awake.f kj71).bind fun t314=>(some t314)) else (some false))))) else (some false))) else (some false))) = some r:=by rw [if_neg (show ¬ (false = true) by decide)] at H;exact H
       clear H
       have H:=H1
       clear H1
       replace H:=Option.bind_eq_some_iff.mp H
       obtain ⟨⟨t297,t298,t299,t302⟩,A1110,H⟩:=H
       replace H : (if t302 = 0 then ((shapesearchref09_Same.f kj71 t297 t298 t299 (wrap64 (t267 + (wrap64 (t252 * (wrap64 (a3)))))) t268 t269).bind fun t304=>(if t304 = true then ((series_Starts.f kj71 t290 t291 t292 1).bind fun t305=>((series_Starts.f kj71 t260 t261 t262 1).bind fun t308=>((series_Starts.f kj71 (wrap64 (t267 + (wrap64 (t252 * (wrap64 (a3)))))) t268 t269 1).bind fun t311=>(if (t305.length : Int) = (wrap64 ((t308.length : Int) + (t311.length : Int))) then ((shapesearchlaw09_awake.f kj71).bind fun t314=>(some t314)) else (some false))))) else (some false))) else (some false)) = some r:=H
       have A111:=A_ A1110
       clear A1110
       by_cases c112 : t302 = 0
       ·
        rw [if_pos c112] at H
        have c112b0 : (t302 == 0) = true:=beq_iff_eq.mpr c112
        have c112b1 : (t302 != 0) = false:=bne_eq_false_iff_eq.mpr c112
        clear c112
        replace H:=Option.bind_eq_some_iff.mp H
        obtain ⟨t304,A1130,H⟩:=H
        replace H : (if t304 = true then ((series_Starts.f kj71 t290 t291 t292 1).bind fun t305=>((series_Starts.f kj71 t260 t261 t262 1).bind fun t308=>((series_Starts.f kj71 (wrap64 (t267 + (wrap64 (t252 * (wrap64 (a3)))))) t268 t269 1).bind fun t311=>(if (t305.length : Int) = (wrap64 ((t308.length : Int) + (t311.length : Int))) then ((shapesearchlaw09_awake.f kj71).bind fun t314=>(some t314)) else (some false))))) else (some false)) = some r:=H
        have A113:=A_ A1130
        clear A1130
        by_cases c114 : t304 = true
        ·
         subst c114
         have H1 : ((series_Starts.f kj71 t290 t291 t292 1).bind fun t305=>((series_Starts.f kj71 t260 t261 t262 1).bind fun t308=>((series_Starts.f kj71 (wrap64 (t267 + (wrap64 (t252 * (wrap64 (a3)))))) t268 t269 1).bind fun t311=>(if (t305.length : Int) = (wrap64 ((t308.length : Int) + (t311.length : Int))) then ((shapesearchlaw09_awake.f kj71).bind fun t314=>(some t314)) else (some false))))) = some r:=by rw [if_pos rfl] at H;exact H
         clear H
         have H:=H1
         clear H1
         replace H:=Option.bind_eq_some_iff.mp H
         obtain ⟨t305,A1150,H⟩:=H
         replace H : ((series_Starts.f kj71 t260 t261 t262 1).bind fun t308=>((series_Starts.f kj71 (wrap64 (t267 + (wrap64 (t252 * (wrap64 (a3)))))) t268 t269 1).bind fun t311=>(if (t305.length : Int) = (wrap64 ((t308.length : Int) + (t311.length : Int))) then ((shapesearchlaw09_awake.f kj71).bind fun t314=>(some t314)) else (some false)))) = some r:=H
         have A115:=A_ A1150
         clear A1150
         replace H:=Option.bind_eq_some_iff.mp H
         obtain ⟨t308,A1160,H⟩:=H
         replace H : ((series_Starts.f kj71 (wrap64 (t267 + (wrap64 (t252 * (wrap64 (a3)))))) t268 t269 1).bind fun t311=>(if (t305.length : Int) = (wrap64 ((t308.length : Int) + (t311.length : Int))) then ((shapesearchlaw09_awake.f kj71).bind fun t314=>(some t314)) else (some false))) = some r:=H
         have A116:=A_ A1160
         clear A1160
         replace H:=Option.bind_eq_some_iff.mp H
         obtain ⟨t311,A1170,H⟩:=H
         replace H : (if (t305.length : Int) = (wrap64 ((t308.length : Int) + (t311.length : Int))) then ((shapesearchlaw09_awake.f kj71).bind fun t314=>(some t314)) else (some false)) = some r:=H
         have A117:=A_ A1170
         clear A1170
         by_cases c118 : (t305.length : Int) = (wrap64 ((t308.length : Int) + (t311.length : Int)))
         ·
          rw [if_pos c118] at H
          have c118b0 : ((t305.length : Int) == (wrap64 ((t308.length : Int) + (t311.length : Int)))) = true:=beq_iff_eq.mpr c118
          have c118b1 : ((t305.length : Int) != (wrap64 ((t308.length : Int) + (t311.length : Int)))) = false:=bne_eq_false_iff_eq.mpr c118
          clear c118
          replace H:=Option.bind_eq_some_iff.mp H
          obtain ⟨t314,A1190,H⟩:=H
          replace H : (some t314) = some r:=H
          have A119:=A_ A1190
          clear A1190
          obtain rfl:=Option.some.inj H
          have hnb120:=NB296_257.out
          have hnc120:=NB257_296.out
          have hnb121:=NB296_266.out
          have hnc121:=NB266_296.out
          have hnb122:=NB296_273.out
          have hnc122:=NB273_296.out
          have hnb123:=NB296_280.out
          have hnc123:=NB280_296.out
          have hnb124:=NB296_287.out
          have hnc124:=NB287_296.out
          have hnb125:=NB296_289.out
          have hnc125:=NB289_296.out
          have hcz126_0 : wc.cell? ⟨gb296,0,none⟩ = some (.int .i64 t290):=(blk_cell BK296.out 0).trans rfl
          have hcz126_1 : wc.cell? ⟨gb296,1,none⟩ = some (.int .i64 t291):=(blk_cell BK296.out 1).trans rfl
          have hcz126_2 : wc.cell? ⟨gb296,2,none⟩ = some (.slice Ao101 t292.length co101):=(blk_cell BK296.out 2).trans rfl
          have hfz126_0:=blk_frozen BK296.out 0
          have hfz126_1:=blk_frozen BK296.out 1
          have hfz126_2:=blk_frozen BK296.out 2
          try go_wp2_with (first|((with_reducible refine gate_callee (f:=18) rfl ?_);refine goesL_ (some 128) rfl rfl Try.func18 (by kernel_rfl) rfl #[.agg #[.int .i64 t290,.int .i64 t291,.slice Ao101 t292.length co101],.int .i64 (wrap64 (t258 + (wrap64 (a3)))),.int .i64 t259] rfl (by (try simp only [List.map_toArray,List.map_cons,List.map_nil]);first|done|rfl|(simp only [List.length_drop,List.length_take];rfl)) ?_;(with_reducible refine (series_Cut.calls kj71 t290 t291 _ _ t292 (wrap64 (t258 + (wrap64 (a3)))) t259 t297 t298 t299 t302 _ ?side1 ?side2 A111.out).mono ?_);(case side1=>repeat (first|exact (rd_ HO_297002.out).2.2|(with_reducible refine ca ?_ _)|(with_reducible refine cb ?_ _)|(with_reducible refine cc ?_)));(case side2=>exact (rd_ HO_297002.out).2.1);rintro e w127 ⟨v300,rfl,ho0,hb⟩;refine ⟨_,rfl,?_⟩;have n0_:=A_ (re (by (with_reducible repeat (first|apply ra|apply rb|apply rc));exact HO_258002.out) (rs ho0) hb);have n1_:=A_ (re (by (with_reducible repeat (first|apply ra|apply rb|apply rc));exact HO_267002.out) (rs ho0) hb);have n2_:=A_ (re (by (with_reducible repeat (first|apply ra|apply rb|apply rc));exact HO_274002.out) (rs ho0) hb);have n3_:=A_ (re (by (with_reducible repeat (first|apply ra|apply rb|apply rc));exact HO_281002.out) (rs ho0) hb);have n4_:=A_ (re (by (with_reducible repeat (first|apply ra|apply rb|apply rc));exact HO_288002.out) (rs ho0) hb);have n5_:=A_ (re (by (with_reducible repeat (first|apply ra|apply rb|apply rc));exact HO_290002.out) (rs ho0) hb);have n6_:=A_ (re (by (with_reducible repeat (first|apply ra|apply rb|apply rc));exact HO_297002.out) (rs ho0) hb);have n7_:=A_ (Kd.R_lower (rn (rn (rn (rn (rn (rn (rn ho0 (rl (by (with_reducible repeat (first|apply ra|apply rb|apply rc));exact HO_258002.out))) (rl (by (with_reducible repeat (first|apply ra|apply rb|apply rc));exact HO_267002.out))) (rl (by (with_reducible repeat (first|apply ra|apply rb|apply rc));exact HO_274002.out))) (rl (by (with_reducible repeat (first|apply ra|apply rb|apply rc));exact HO_281002.out))) (rl (by (with_reducible repeat (first|apply ra|apply rb|apply rc));exact HO_288002.out))) (rl (by (with_reducible repeat (first|apply ra|apply rb|apply rc));exact HO_290002.out))) (rl (by (with_reducible repeat (first|apply ra|apply rb|apply rc));exact HO_297002.out))) (below_size (by repeat (first|(with_reducible first|exact HB.out|apply ba|apply bb|apply bc|refine below_set ?_ GE257.out|refine below_set ?_ GE266.out|refine below_set ?_ GE273.out|refine below_set ?_ GE280.out|refine below_set ?_ GE287.out|refine below_set ?_ GE289.out|refine below_set ?_ GE296.out)|exact HB.out))));have n8_:=A_ (blk_below (g:=gb257) (o:=.cells #[.int .i64 t251,.int .i64 t252,.slice Ao19 t253.length co19] 24 (0,0)) (by (with_reducible repeat (first|refine blk_drewN ?_ _|refine blk_drew ?_|refine blk_alloc ?_ _));exact BK257.out) hb);have n9_:=A_ (blk_below (g:=gb266) (o:=.cells #[.int .i64 t260,.int .i64 t261,.slice Ao25 t262.length co25] 24 (0,0)) (by (with_reducible repeat (first|refine blk_drewN ?_ _|refine blk_drew ?_|refine blk_alloc ?_ _));exact BK266.out) hb);have n10_:=A_ (blk_below (g:=gb273) (o:=.cells #[.int .i64 t267,.int .i64 t268,.slice Ao33 t269.length co33] 24 (0,0)) (by (with_reducible repeat (first|refine blk_drewN ?_ _|refine blk_drew ?_|refine blk_alloc ?_ _));exact BK273.out) hb);have n11_:=A_ (blk_below (g:=gb280) (o:=.cells #[.int .i64 t274,.int .i64 t275,.slice Ao42 t276.length co42] 24 (0,0)) (by (with_reducible repeat (first|refine blk_drewN ?_ _|refine blk_drew ?_|refine blk_alloc ?_ _));exact BK280.out) hb);have n12_:=A_ (blk_below (g:=gb287) (o:=.cells #[.int .i64 t281,.int .i64 t282,.slice Ao52 t283.length co52] 24 (0,0)) (by (with_reducible repeat (first|refine blk_drewN ?_ _|refine blk_drew ?_|refine blk_alloc ?_ _));exact BK287.out) hb);have n13_:=A_ (blk_below (g:=gb289) (o:=.cells #[.int .i64 (wrap64 (t267 + (wrap64 (t252 * (wrap64 (a3)))))),.int .i64 t268,.slice Ao33 t269.length co33] 24 (0,0)) (by (with_reducible repeat (first|refine blk_drewN ?_ _|refine blk_drew ?_|refine blk_alloc ?_ _));exact BK289.out) hb);have n14_:=A_ (blk_below (g:=gb296) (o:=.cells #[.int .i64 t290,.int .i64 t291,.slice Ao101 t292.length co101] 24 (0,0)) (by (with_reducible repeat (first|refine blk_drewN ?_ _|refine blk_drew ?_|refine blk_alloc ?_ _));exact BK296.out) hb);have n15_:=A_ (below_step (by repeat (first|(with_reducible first|exact HB.out|apply ba|apply bb|apply bc|refine below_set ?_ GE257.out|refine below_set ?_ GE266.out|refine below_set ?_ GE273.out|refine below_set ?_ GE280.out|refine below_set ?_ GE287.out|refine below_set ?_ GE289.out|refine below_set ?_ GE296.out)|exact HB.out)) hb);clear HO_258002;clear HO_267002;clear HO_274002;clear HO_281002;clear HO_288002;clear HO_290002;clear HO_297002;clear BK257;clear BK266;clear BK273;clear BK280;clear BK287;clear BK289;clear BK296;clear HB;have HO_258002:=n0_;have HO_267002:=n1_;have HO_274002:=n2_;have HO_281002:=n3_;have HO_288002:=n4_;have HO_290002:=n5_;have HO_297002:=n6_;have HO301:=n7_;have BK257:=n8_;have BK266:=n9_;have BK273:=n10_;have BK280:=n11_;have BK287:=n12_;have BK289:=n13_;have BK296:=n14_;have HB:=n15_;clear n0_ n1_ n2_ n3_ n4_ n5_ n6_ n7_ n8_ n9_ n10_ n11_ n12_ n13_ n14_ n15_;(try clear hb);(try clear hb2);(try clear hk);(try clear hi);(try clear ho0))|((with_reducible refine gate_dst (N:=23) rfl ?_);(try (refine gate_guard (by rfl) ?_;dsimp only));refine box_event ?hg (N:=23) ?hd (cs:=#[.int .i64 0,.int .i64 0,.slice none 0 0]) (t:=24) ?hr ?_;(case hd=>rfl);(case hg=>rfl);(case hr=>first|(go_simp;done)|(go_simp;rfl));intro gb303 hg w128 hbox hb;have n0_:=A_ (rw_ (by (with_reducible repeat (first|apply ra|apply rb|apply rc));exact HO_258002.out) hb);have n1_:=A_ (rw_ (by (with_reducible repeat (first|apply ra|apply rb|apply rc));exact HO_267002.out) hb);have n2_:=A_ (rw_ (by (with_reducible repeat (first|apply ra|apply rb|apply rc));exact HO_274002.out) hb);have n3_:=A_ (rw_ (by (with_reducible repeat (first|apply ra|apply rb|apply rc));exact HO_281002.out) hb);have n4_:=A_ (rw_ (by (with_reducible repeat (first|apply ra|apply rb|apply rc));exact HO_288002.out) hb);have n5_:=A_ (rw_ (by (with_reducible repeat (first|apply ra|apply rb|apply rc));exact HO_290002.out) hb);have n6_:=A_ (rw_ (by (with_reducible repeat (first|apply ra|apply rb|apply rc));exact HO_297002.out) hb);have n7_:=A_ (rw_ (by (with_reducible repeat (first|apply ra|apply rb|apply rc));exact HO301.out) hb);have n8_:=A_ (blk_below (g:=gb257) (o:=.cells #[.int .i64 t251,.int .i64 t252,.slice Ao19 t253.length co19] 24 (0,0)) (by (with_reducible repeat (first|refine blk_drewN ?_ _|refine blk_drew ?_|refine blk_alloc ?_ _));exact BK257.out) hb);have n9_:=A_ (blk_below (g:=gb266) (o:=.cells #[.int .i64 t260,.int .i64 t261,.slice Ao25 t262.length co25] 24 (0,0)) (by (with_reducible repeat (first|refine blk_drewN ?_ _|refine blk_drew ?_|refine blk_alloc ?_ _));exact BK266.out) hb);have n10_:=A_ (blk_below (g:=gb273) (o:=.cells #[.int .i64 t267,.int .i64 t268,.slice Ao33 t269.length co33] 24 (0,0)) (by (with_reducible repeat (first|refine blk_drewN ?_ _|refine blk_drew ?_|refine blk_alloc ?_ _));exact BK273.out) hb);have n11_:=A_ (blk_below (g:=gb280) (o:=.cells #[.int .i64 t274,.int .i64 t275,.slice Ao42 t276.length co42] 24 (0,0)) (by (with_reducible repeat (first|refine blk_drewN ?_ _|refine blk_drew ?_|refine blk_alloc ?_ _));exact BK280.out) hb);have n12_:=A_ (blk_below (g:=gb287) (o:=.cells #[.int .i64 t281,.int .i64 t282,.slice Ao52 t283.length co52] 24 (0,0)) (by (with_reducible repeat (first|refine blk_drewN ?_ _|refine blk_drew ?_|refine blk_alloc ?_ _));exact BK287.out) hb);have n13_:=A_ (blk_below (g:=gb289) (o:=.cells #[.int .i64 (wrap64 (t267 + (wrap64 (t252 * (wrap64 (a3)))))),.int .i64 t268,.slice Ao33 t269.length co33] 24 (0,0)) (by (with_reducible repeat (first|refine blk_drewN ?_ _|refine blk_drew ?_|refine blk_alloc ?_ _));exact BK289.out) hb);have n14_:=A_ (blk_below (g:=gb296) (o:=.cells #[.int .i64 t290,.int .i64 t291,.slice Ao101 t292.length co101] 24 (0,0)) (by (with_reducible repeat (first|refine blk_drewN ?_ _|refine blk_drew ?_|refine blk_alloc ?_ _));exact BK296.out) hb);have n15_:=A_ (below_step (by repeat (first|(with_reducible first|exact HB.out|apply ba|apply bb|apply bc|refine below_set ?_ GE257.out|refine below_set ?_ GE266.out|refine below_set ?_ GE273.out|refine below_set ?_ GE280.out|refine below_set ?_ GE287.out|refine below_set ?_ GE289.out|refine below_set ?_ GE296.out)|exact HB.out)) hb);have n16_:=A_ (hbox);have n17_:=A_ ((by rw [hg];exact (below_size (by repeat (first|(with_reducible first|exact HB.out|apply ba|apply bb|apply bc|refine below_set ?_ GE257.out|refine below_set ?_ GE266.out|refine below_set ?_ GE273.out|refine below_set ?_ GE280.out|refine below_set ?_ GE287.out|refine below_set ?_ GE289.out|refine below_set ?_ GE296.out)|exact HB.out))) : w.heap.size ≤ gb303));have n18_:=A_ ((by rw [hg];exact (below_size (by repeat (first|(with_reducible first|exact HB.out|apply ba|apply bb|apply bc|refine below_set ?_ GE257.out|refine below_set ?_ GE266.out|refine below_set ?_ GE273.out|refine below_set ?_ GE280.out|refine below_set ?_ GE287.out|refine below_set ?_ GE289.out|refine below_set ?_ GE296.out)|exact HB.out))) : w.heap.size ≤ gb303));have n19_:=A_ ((by rw [hg];exact Nat.ne_of_lt (blk_lt (g:=gb257) (o:=.cells #[.int .i64 t251,.int .i64 t252,.slice Ao19 t253.length co19] 24 (0,0)) (by (with_reducible repeat (first|refine blk_drewN ?_ _|refine blk_drew ?_|refine blk_alloc ?_ _));exact BK257.out)) : gb257≠gb303));have n20_:=A_ ((by rw [hg];exact Nat.ne_of_gt (blk_lt (g:=gb257) (o:=.cells #[.int .i64 t251,.int .i64 t252,.slice Ao19 t253.length co19] 24 (0,0)) (by (with_reducible repeat (first|refine blk_drewN ?_ _|refine blk_drew ?_|refine blk_alloc ?_ _));exact BK257.out)) : gb303≠gb257));have n21_:=A_ ((by rw [hg];exact Nat.ne_of_lt (blk_lt (g:=gb266) (o:=.cells #[.int .i64 t260,.int .i64 t261,.slice Ao25 t262.length co25] 24 (0,0)) (by (with_reducible repeat (first|refine blk_drewN ?_ _|refine blk_drew ?_|refine blk_alloc ?_ _));exact BK266.out)) : gb266≠gb303));have n22_:=A_ ((by rw [hg];exact Nat.ne_of_gt (blk_lt (g:=gb266) (o:=.cells #[.int .i64 t260,.int .i64 t261,.slice Ao25 t262.length co25] 24 (0,0)) (by (with_reducible repeat (first|refine blk_drewN ?_ _|refine blk_drew ?_|refine blk_alloc ?_ _));exact BK266.out)) : gb303≠gb266));have n23_:=A_ ((by rw [hg];exact Nat.ne_of_lt (blk_lt (g:=gb273) (o:=.cells #[.int .i64 t267,.int .i64 t268,.slice Ao33 t269.length co33] 24 (0,0)) (by (with_reducible repeat (first|refine blk_drewN ?_ _|refine blk_drew ?_|refine blk_alloc ?_ _));exact BK273.out)) : gb273≠gb303));have n24_:=A_ ((by rw [hg];exact Nat.ne_of_gt (blk_lt (g:=gb273) (o:=.cells #[.int .i64 t267,.int .i64 t268,.slice Ao33 t269.length co33] 24 (0,0)) (by (with_reducible repeat (first|refine blk_drewN ?_ _|refine blk_drew ?_|refine blk_alloc ?_ _));exact BK273.out)) : gb303≠gb273));have n25_:=A_ ((by rw [hg];exact Nat.ne_of_lt (blk_lt (g:=gb280) (o:=.cells #[.int .i64 t274,.int .i64 t275,.slice Ao42 t276.length co42] 24 (0,0)) (by (with_reducible repeat (first|refine blk_drewN ?_ _|refine blk_drew ?_|refine blk_alloc ?_ _));exact BK280.out)) : gb280≠gb303));have n26_:=A_ ((by rw [hg];exact Nat.ne_of_gt (blk_lt (g:=gb280) (o:=.cells #[.int .i64 t274,.int .i64 t275,.slice Ao42 t276.length co42] 24 (0,0)) (by (with_reducible repeat (first|refine blk_drewN ?_ _|refine blk_drew ?_|refine blk_alloc ?_ _));exact BK280.out)) : gb303≠gb280));have n27_:=A_ ((by rw [hg];exact Nat.ne_of_lt (blk_lt (g:=gb287) (o:=.cells #[.int .i64 t281,.int .i64 t282,.slice Ao52 t283.length co52] 24 (0,0)) (by (with_reducible repeat (first|refine blk_drewN ?_ _|refine blk_drew ?_|refine blk_alloc ?_ _));exact BK287.out)) : gb287≠gb303));have n28_:=A_ ((by rw [hg];exact Nat.ne_of_gt (blk_lt (g:=gb287) (o:=.cells #[.int .i64 t281,.int .i64 t282,.slice Ao52 t283.length co52] 24 (0,0)) (by (with_reducible repeat (first|refine blk_drewN ?_ _|refine blk_drew ?_|refine blk_alloc ?_ _));exact BK287.out)) : gb303≠gb287));have n29_:=A_ ((by rw [hg];exact Nat.ne_of_lt (blk_lt (g:=gb289) (o:=.cells #[.int .i64 (wrap64 (t267 + (wrap64 (t252 * (wrap64 (a3)))))),.int .i64 t268,.slice Ao33 t269.length co33] 24 (0,0)) (by (with_reducible repeat (first|refine blk_drewN ?_ _|refine blk_drew ?_|refine blk_alloc ?_ _));exact BK289.out)) : gb289≠gb303));have n30_:=A_ ((by rw [hg];exact Nat.ne_of_gt (blk_lt (g:=gb289) (o:=.cells #[.int .i64 (wrap64 (t267 + (wrap64 (t252 * (wrap64 (a3)))))),.int .i64 t268,.slice Ao33 t269.length co33] 24 (0,0)) (by (with_reducible repeat (first|refine blk_drewN ?_ _|refine blk_drew ?_|refine blk_alloc ?_ _));exact BK289.out)) : gb303≠gb289));have n31_:=A_ ((by rw [hg];exact Nat.ne_of_lt (blk_lt (g:=gb296) (o:=.cells #[.int .i64 t290,.int .i64 t291,.slice Ao101 t292.length co101] 24 (0,0)) (by (with_reducible repeat (first|refine blk_drewN ?_ _|refine blk_drew ?_|refine blk_alloc ?_ _));exact BK296.out)) : gb296≠gb303));have n32_:=A_ ((by rw [hg];exact Nat.ne_of_gt (blk_lt (g:=gb296) (o:=.cells #[.int .i64 t290,.int .i64 t291,.slice Ao101 t292.length co101] 24 (0,0)) (by (with_reducible repeat (first|refine blk_drewN ?_ _|refine blk_drew ?_|refine blk_alloc ?_ _));exact BK296.out)) : gb303≠gb296));clear HO_258002;clear HO_267002;clear HO_274002;clear HO_281002;clear HO_288002;clear HO_290002;clear HO_297002;clear HO301;clear BK257;clear BK266;clear BK273;clear BK280;clear BK287;clear BK289;clear BK296;clear HB;have HO_258002:=n0_;have HO_267002:=n1_;have HO_274002:=n2_;have HO_281002:=n3_;have HO_288002:=n4_;have HO_290002:=n5_;have HO_297002:=n6_;have HO301:=n7_;have BK257:=n8_;have BK266:=n9_;have BK273:=n10_;have BK280:=n11_;have BK287:=n12_;have BK289:=n13_;have BK296:=n14_;have HB:=n15_;have BK303:=n16_;have GW303:=n17_;have GE303:=n18_;have NB257_303:=n19_;have NB303_257:=n20_;have NB266_303:=n21_;have NB303_266:=n22_;have NB273_303:=n23_;have NB303_273:=n24_;have NB280_303:=n25_;have NB303_280:=n26_;have NB287_303:=n27_;have NB303_287:=n28_;have NB289_303:=n29_;have NB303_289:=n30_;have NB296_303:=n31_;have NB303_296:=n32_;clear n0_ n1_ n2_ n3_ n4_ n5_ n6_ n7_ n8_ n9_ n10_ n11_ n12_ n13_ n14_ n15_ n16_ n17_ n18_ n19_ n20_ n21_ n22_ n23_ n24_ n25_ n26_ n27_ n28_ n29_ n30_ n31_ n32_;clear hb hbox hg;have hnb129:=NB303_257.out;have hnc129:=NB257_303.out;have hnb130:=NB303_266.out;have hnc130:=NB266_303.out;have hnb131:=NB303_273.out;have hnc131:=NB273_303.out;have hnb132:=NB303_280.out;have hnc132:=NB280_303.out;have hnb133:=NB303_287.out;have hnc133:=NB287_303.out;have hnb134:=NB303_289.out;have hnc134:=NB289_303.out;have hnb135:=NB303_296.out;have hnc135:=NB296_303.out;have hcz136_0 : w128.cell? ⟨gb303,0,none⟩ = some (.int .i64 0):=(blk_cell BK303.out 0).trans rfl;have hcz136_1 : w128.cell? ⟨gb303,1,none⟩ = some (.int .i64 0):=(blk_cell BK303.out 1).trans rfl;have hcz136_2 : w128.cell? ⟨gb303,2,none⟩ = some (.slice none 0 0):=(blk_cell BK303.out 2).trans rfl;have hfz136_0:=blk_frozen BK303.out 0;have hfz136_1:=blk_frozen BK303.out 1;have hfz136_2:=blk_frozen BK303.out 2;obtain ⟨Ao137,co137,eo137⟩:=Kd.R_slice HO301.out;subst eo137))
          have n0_ : Aside0 (Kd.R (Kd.int .i64) 3 (((w128.setCell ⟨gb303,0,none⟩ (.int .i64 t297)).setCell ⟨gb303,1,none⟩ (.int .i64 t298)).setCell ⟨gb303,2,none⟩ (.slice Ao137 t299.length co137)) w.heap.size (fun k_=>nb k_ (.slice Ao25 t262.length co25)∧nb k_ (.slice Ao33 t269.length co33)∧nb k_ (.slice Ao42 t276.length co42)∧nb k_ (.slice Ao52 t283.length co52)∧nb k_ (.slice Ao33 t269.length co33)∧nb k_ (.slice Ao101 t292.length co101)∧nb k_ (.slice Ao137 t299.length co137)) (.slice Ao19 t253.length co19) t253):=⟨by (with_reducible repeat (first|apply ra|apply rb|apply rc));exact rm (Kd.R_far (p:=⟨gb303,2,none⟩) (Kd.R_far (p:=⟨gb303,1,none⟩) (Kd.R_far (p:=⟨gb303,0,none⟩) (Kd.R_types HO_258002.out BK303.out (by decide)) (fun _ hk=>hk.2) (.int .i64 t297)) (fun _ hk=>hk.2) (.int .i64 t298)) (fun _ hk=>hk.2) (.slice Ao137 t299.length co137)) (fun _ hk=>⟨hk.1.1.1,⟨hk.1.1.2.1,⟨hk.1.1.2.2.1,⟨hk.1.1.2.2.2.1,⟨hk.1.1.2.2.2.2.1,⟨hk.1.1.2.2.2.2.2,hk.1.2⟩⟩⟩⟩⟩⟩)⟩
          have n1_ : Aside0 (Kd.R (Kd.int .i64) 3 (((w128.setCell ⟨gb303,0,none⟩ (.int .i64 t297)).setCell ⟨gb303,1,none⟩ (.int .i64 t298)).setCell ⟨gb303,2,none⟩ (.slice Ao137 t299.length co137)) w.heap.size (fun k_=>nb k_ (.slice Ao19 t253.length co19)∧nb k_ (.slice Ao33 t269.length co33)∧nb k_ (.slice Ao42 t276.length co42)∧nb k_ (.slice Ao52 t283.length co52)∧nb k_ (.slice Ao33 t269.length co33)∧nb k_ (.slice Ao101 t292.length co101)∧nb k_ (.slice Ao137 t299.length co137)) (.slice Ao25 t262.length co25) t262):=⟨by (with_reducible repeat (first|apply ra|apply rb|apply rc));exact rm (Kd.R_far (p:=⟨gb303,2,none⟩) (Kd.R_far (p:=⟨gb303,1,none⟩) (Kd.R_far (p:=⟨gb303,0,none⟩) (Kd.R_types HO_267002.out BK303.out (by decide)) (fun _ hk=>hk.2) (.int .i64 t297)) (fun _ hk=>hk.2) (.int .i64 t298)) (fun _ hk=>hk.2) (.slice Ao137 t299.length co137)) (fun _ hk=>⟨hk.1.1.1,⟨hk.1.1.2.1,⟨hk.1.1.2.2.1,⟨hk.1.1.2.2.2.1,⟨hk.1.1.2.2.2.2.1,⟨hk.1.1.2.2.2.2.2,hk.1.2⟩⟩⟩⟩⟩⟩)⟩
          have n2_ : Aside0 (Kd.R (Kd.int .i64) 3 (((w128.setCell ⟨gb303,0,none⟩ (.int .i64 t297)).setCell ⟨gb303,1,none⟩ (.int .i64 t298)).setCell ⟨gb303,2,none⟩ (.slice Ao137 t299.length co137)) w.heap.size (fun k_=>nb k_ (.slice Ao19 t253.length co19)∧nb k_ (.slice Ao25 t262.length co25)∧nb k_ (.slice Ao42 t276.length co42)∧nb k_ (.slice Ao52 t283.length co52)∧nb k_ (.slice Ao101 t292.length co101)∧nb k_ (.slice Ao137 t299.length co137)) (.slice Ao33 t269.length co33) t269):=⟨by (with_reducible repeat (first|apply ra|apply rb|apply rc));exact rm (Kd.R_far (p:=⟨gb303,2,none⟩) (Kd.R_far (p:=⟨gb303,1,none⟩) (Kd.R_far (p:=⟨gb303,0,none⟩) (Kd.R_types HO_274002.out BK303.out (by decide)) (fun _ hk=>hk.2) (.int .i64 t297)) (fun _ hk=>hk.2) (.int .i64 t298)) (fun _ hk=>hk.2) (.slice Ao137 t299.length co137)) (fun _ hk=>⟨hk.1.1.1,⟨hk.1.1.2.1,⟨hk.1.1.2.2.1,⟨hk.1.1.2.2.2.1,⟨hk.1.1.2.2.2.2,hk.1.2⟩⟩⟩⟩⟩)⟩
          have n3_ : Aside0 (Kd.R (Kd.int .i64) 3 (((w128.setCell ⟨gb303,0,none⟩ (.int .i64 t297)).setCell ⟨gb303,1,none⟩ (.int .i64 t298)).setCell ⟨gb303,2,none⟩ (.slice Ao137 t299.length co137)) w.heap.size (fun k_=>nb k_ (.slice Ao19 t253.length co19)∧nb k_ (.slice Ao25 t262.length co25)∧nb k_ (.slice Ao33 t269.length co33)∧nb k_ (.slice Ao52 t283.length co52)∧nb k_ (.slice Ao33 t269.length co33)∧nb k_ (.slice Ao101 t292.length co101)∧nb k_ (.slice Ao137 t299.length co137)) (.slice Ao42 t276.length co42) t276):=⟨by (with_reducible repeat (first|apply ra|apply rb|apply rc));exact rm (Kd.R_far (p:=⟨gb303,2,none⟩) (Kd.R_far (p:=⟨gb303,1,none⟩) (Kd.R_far (p:=⟨gb303,0,none⟩) (Kd.R_types HO_281002.out BK303.out (by decide)) (fun _ hk=>hk.2) (.int .i64 t297)) (fun _ hk=>hk.2) (.int .i64 t298)) (fun _ hk=>hk.2) (.slice Ao137 t299.length co137)) (fun _ hk=>⟨hk.1.1.1,⟨hk.1.1.2.1,⟨hk.1.1.2.2.1,⟨hk.1.1.2.2.2.1,⟨hk.1.1.2.2.2.2.1,⟨hk.1.1.2.2.2.2.2,hk.1.2⟩⟩⟩⟩⟩⟩)⟩
          have n4_ : Aside0 (Kd.R (Kd.int .i64) 3 (((w128.setCell ⟨gb303,0,none⟩ (.int .i64 t297)).setCell ⟨gb303,1,none⟩ (.int .i64 t298)).setCell ⟨gb303,2,none⟩ (.slice Ao137 t299.length co137)) w.heap.size (fun k_=>nb k_ (.slice Ao19 t253.length co19)∧nb k_ (.slice Ao25 t262.length co25)∧nb k_ (.slice Ao33 t269.length co33)∧nb k_ (.slice Ao42 t276.length co42)∧nb k_ (.slice Ao33 t269.length co33)∧nb k_ (.slice Ao101 t292.length co101)∧nb k_ (.slice Ao137 t299.length co137)) (.slice Ao52 t283.length co52) t283):=⟨by (with_reducible repeat (first|apply ra|apply rb|apply rc));exact rm (Kd.R_far (p:=⟨gb303,2,none⟩) (Kd.R_far (p:=⟨gb303,1,none⟩) (Kd.R_far (p:=⟨gb303,0,none⟩) (Kd.R_types HO_288002.out BK303.out (by decide)) (fun _ hk=>hk.2) (.int .i64 t297)) (fun _ hk=>hk.2) (.int .i64 t298)) (fun _ hk=>hk.2) (.slice Ao137 t299.length co137)) (fun _ hk=>⟨hk.1.1.1,⟨hk.1.1.2.1,⟨hk.1.1.2.2.1,⟨hk.1.1.2.2.2.1,⟨hk.1.1.2.2.2.2.1,⟨hk.1.1.2.2.2.2.2,hk.1.2⟩⟩⟩⟩⟩⟩)⟩
          have n5_ : Aside0 (Kd.R (Kd.int .i64) 3 (((w128.setCell ⟨gb303,0,none⟩ (.int .i64 t297)).setCell ⟨gb303,1,none⟩ (.int .i64 t298)).setCell ⟨gb303,2,none⟩ (.slice Ao137 t299.length co137)) w.heap.size (fun k_=>nb k_ (.slice Ao19 t253.length co19)∧nb k_ (.slice Ao25 t262.length co25)∧nb k_ (.slice Ao42 t276.length co42)∧nb k_ (.slice Ao52 t283.length co52)∧nb k_ (.slice Ao101 t292.length co101)∧nb k_ (.slice Ao137 t299.length co137)) (.slice Ao33 t269.length co33) t269):=⟨by (with_reducible repeat (first|apply ra|apply rb|apply rc));exact rm (Kd.R_far (p:=⟨gb303,2,none⟩) (Kd.R_far (p:=⟨gb303,1,none⟩) (Kd.R_far (p:=⟨gb303,0,none⟩) (Kd.R_types HO_290002.out BK303.out (by decide)) (fun _ hk=>hk.2) (.int .i64 t297)) (fun _ hk=>hk.2) (.int .i64 t298)) (fun _ hk=>hk.2) (.slice Ao137 t299.length co137)) (fun _ hk=>⟨hk.1.1.1,⟨hk.1.1.2.1,⟨hk.1.1.2.2.1,⟨hk.1.1.2.2.2.1,⟨hk.1.1.2.2.2.2,hk.1.2⟩⟩⟩⟩⟩)⟩
          have n6_ : Aside0 (Kd.R (Kd.int .i64) 3 (((w128.setCell ⟨gb303,0,none⟩ (.int .i64 t297)).setCell ⟨gb303,1,none⟩ (.int .i64 t298)).setCell ⟨gb303,2,none⟩ (.slice Ao137 t299.length co137)) w.heap.size (fun k_=>nb k_ (.slice Ao19 t253.length co19)∧nb k_ (.slice Ao25 t262.length co25)∧nb k_ (.slice Ao33 t269.length co33)∧nb k_ (.slice Ao42 t276.length co42)∧nb k_ (.slice Ao52 t283.length co52)∧nb k_ (.slice Ao33 t269.length co33)∧nb k_ (.slice Ao137 t299.length co137)) (.slice Ao101 t292.length co101) t292):=⟨by (with_reducible repeat (first|apply ra|apply rb|apply rc));exact rm (Kd.R_far (p:=⟨gb303,2,none⟩) (Kd.R_far (p:=⟨gb303,1,none⟩) (Kd.R_far (p:=⟨gb303,0,none⟩) (Kd.R_types HO_297002.out BK303.out (by decide)) (fun _ hk=>hk.2) (.int .i64 t297)) (fun _ hk=>hk.2) (.int .i64 t298)) (fun _ hk=>hk.2) (.slice Ao137 t299.length co137)) (fun _ hk=>⟨hk.1.1.1,⟨hk.1.1.2.1,⟨hk.1.1.2.2.1,⟨hk.1.1.2.2.2.1,⟨hk.1.1.2.2.2.2.1,⟨hk.1.1.2.2.2.2.2,hk.1.2⟩⟩⟩⟩⟩⟩)⟩
          have n7_ : Aside0 (Kd.R (Kd.int .i64) 3 (((w128.setCell ⟨gb303,0,none⟩ (.int .i64 t297)).setCell ⟨gb303,1,none⟩ (.int .i64 t298)).setCell ⟨gb303,2,none⟩ (.slice Ao137 t299.length co137)) w.heap.size (fun k_=>nb k_ (.slice Ao19 t253.length co19)∧nb k_ (.slice Ao25 t262.length co25)∧nb k_ (.slice Ao33 t269.length co33)∧nb k_ (.slice Ao42 t276.length co42)∧nb k_ (.slice Ao52 t283.length co52)∧nb k_ (.slice Ao33 t269.length co33)∧nb k_ (.slice Ao101 t292.length co101)) (.slice Ao137 t299.length co137) t299):=⟨by (with_reducible repeat (first|apply ra|apply rb|apply rc));exact rm (Kd.R_far (p:=⟨gb303,2,none⟩) (Kd.R_far (p:=⟨gb303,1,none⟩) (Kd.R_far (p:=⟨gb303,0,none⟩) (Kd.R_types HO301.out BK303.out (by decide)) (fun _ hk=>hk.2) (.int .i64 t297)) (fun _ hk=>hk.2) (.int .i64 t298)) (fun _ hk=>hk.2) (.slice Ao137 t299.length co137)) (fun _ hk=>⟨hk.1.1.1.1.1.1.1.2,⟨hk.1.1.1.1.1.1.2,⟨hk.1.1.1.1.1.2,⟨hk.1.1.1.1.2,⟨hk.1.1.1.2,⟨hk.1.1.2,hk.1.2⟩⟩⟩⟩⟩⟩)⟩
          have n8_ : Aside0 ((((w128.setCell ⟨gb303,0,none⟩ (.int .i64 t297)).setCell ⟨gb303,1,none⟩ (.int .i64 t298)).setCell ⟨gb303,2,none⟩ (.slice Ao137 t299.length co137)).heap[gb257]? = some (.cells #[.int .i64 t251,.int .i64 t252,.slice Ao19 t253.length co19] 24 (0,0))):=⟨by (with_reducible repeat (first|refine blk_drewN ?_ _|refine blk_drew ?_|refine blk_alloc ?_ _));refine blk_far ?_ NB257_303.out _;(with_reducible repeat (first|refine blk_drewN ?_ _|refine blk_drew ?_|refine blk_alloc ?_ _));refine blk_far ?_ NB257_303.out _;(with_reducible repeat (first|refine blk_drewN ?_ _|refine blk_drew ?_|refine blk_alloc ?_ _));refine blk_far ?_ NB257_303.out _;(with_reducible repeat (first|refine blk_drewN ?_ _|refine blk_drew ?_|refine blk_alloc ?_ _));exact BK257.out⟩
          have n9_ : Aside0 ((((w128.setCell ⟨gb303,0,none⟩ (.int .i64 t297)).setCell ⟨gb303,1,none⟩ (.int .i64 t298)).setCell ⟨gb303,2,none⟩ (.slice Ao137 t299.length co137)).heap[gb266]? = some (.cells #[.int .i64 t260,.int .i64 t261,.slice Ao25 t262.length co25] 24 (0,0))):=⟨by (with_reducible repeat (first|refine blk_drewN ?_ _|refine blk_drew ?_|refine blk_alloc ?_ _));refine blk_far ?_ NB266_303.out _;(with_reducible repeat (first|refine blk_drewN ?_ _|refine blk_drew ?_|refine blk_alloc ?_ _));refine blk_far ?_ NB266_303.out _;(with_reducible repeat (first|refine blk_drewN ?_ _|refine blk_drew ?_|refine blk_alloc ?_ _));refine blk_far ?_ NB266_303.out _;(with_reducible repeat (first|refine blk_drewN ?_ _|refine blk_drew ?_|refine blk_alloc ?_ _));exact BK266.out⟩
          have n10_ : Aside0 ((((w128.setCell ⟨gb303,0,none⟩ (.int .i64 t297)).setCell ⟨gb303,1,none⟩ (.int .i64 t298)).setCell ⟨gb303,2,none⟩ (.slice Ao137 t299.length co137)).heap[gb273]? = some (.cells #[.int .i64 t267,.int .i64 t268,.slice Ao33 t269.length co33] 24 (0,0))):=⟨by (with_reducible repeat (first|refine blk_drewN ?_ _|refine blk_drew ?_|refine blk_alloc ?_ _));refine blk_far ?_ NB273_303.out _;(with_reducible repeat (first|refine blk_drewN ?_ _|refine blk_drew ?_|refine blk_alloc ?_ _));refine blk_far ?_ NB273_303.out _;(with_reducible repeat (first|refine blk_drewN ?_ _|refine blk_drew ?_|refine blk_alloc ?_ _));refine blk_far ?_ NB273_303.out _;(with_reducible repeat (first|refine blk_drewN ?_ _|refine blk_drew ?_|refine blk_alloc ?_ _));exact BK273.out⟩
          have n11_ : Aside0 ((((w128.setCell ⟨gb303,0,none⟩ (.int .i64 t297)).setCell ⟨gb303,1,none⟩ (.int .i64 t298)).setCell ⟨gb303,2,none⟩ (.slice Ao137 t299.length co137)).heap[gb280]? = some (.cells #[.int .i64 t274,.int .i64 t275,.slice Ao42 t276.length co42] 24 (0,0))):=⟨by (with_reducible repeat (first|refine blk_drewN ?_ _|refine blk_drew ?_|refine blk_alloc ?_ _));refine blk_far ?_ NB280_303.out _;(with_reducible repeat (first|refine blk_drewN ?_ _|refine blk_drew ?_|refine blk_alloc ?_ _));refine blk_far ?_ NB280_303.out _;(with_reducible repeat (first|refine blk_drewN ?_ _|refine blk_drew ?_|refine blk_alloc ?_ _));refine blk_far ?_ NB280_303.out _;(with_reducible repeat (first|refine blk_drewN ?_ _|refine blk_drew ?_|refine blk_alloc ?_ _));exact BK280.out⟩
          have n12_ : Aside0 ((((w128.setCell ⟨gb303,0,none⟩ (.int .i64 t297)).setCell ⟨gb303,1,none⟩ (.int .i64 t298)).setCell ⟨gb303,2,none⟩ (.slice Ao137 t299.length co137)).heap[gb287]? = some (.cells #[.int .i64 t281,.int .i64 t282,.slice Ao52 t283.length co52] 24 (0,0))):=⟨by (with_reducible repeat (first|refine blk_drewN ?_ _|refine blk_drew ?_|refine blk_alloc ?_ _));refine blk_far ?_ NB287_303.out _;(with_reducible repeat (first|refine blk_drewN ?_ _|refine blk_drew ?_|refine blk_alloc ?_ _));refine blk_far ?_ NB287_303.out _;(with_reducible repeat (first|refine blk_drewN ?_ _|refine blk_drew ?_|refine blk_alloc ?_ _));refine blk_far ?_ NB287_303.out _;(with_reducible repeat (first|refine blk_drewN ?_ _|refine blk_drew ?_|refine blk_alloc ?_ _));exact BK287.out⟩
          have n13_ : Aside0 ((((w128.setCell ⟨gb303,0,none⟩ (.int .i64 t297)).setCell ⟨gb303,1,none⟩ (.int .i64 t298)).setCell ⟨gb303,2,none⟩ (.slice Ao137 t299.length co137)).heap[gb289]? = some (.cells #[.int .i64 (wrap64 (t267 + (wrap64 (t252 * (wrap64 (a3)))))),.int .i64 t268,.slice Ao33 t269.length co33] 24 (0,0))):=⟨by (with_reducible repeat (first|refine blk_drewN ?_ _|refine blk_drew ?_|refine blk_alloc ?_ _));refine blk_far ?_ NB289_303.out _;(with_reducible repeat (first|refine blk_drewN ?_ _|refine blk_drew ?_|refine blk_alloc ?_ _));refine blk_far ?_ NB289_303.out _;(with_reducible repeat (first|refine blk_drewN ?_ _|refine blk_drew ?_|refine blk_alloc ?_ _));refine blk_far ?_ NB289_303.out _;(with_reducible repeat (first|refine blk_drewN ?_ _|refine blk_drew ?_|refine blk_alloc ?_ _));exact BK289.out⟩
          have n14_ : Aside0 ((((w128.setCell ⟨gb303,0,none⟩ (.int .i64 t297)).setCell ⟨gb303,1,none⟩ (.int .i64 t298)).setCell ⟨gb303,2,none⟩ (.slice Ao137 t299.length co137)).heap[gb296]? = some (.cells #[.int .i64 t290,.int .i64 t291,.slice Ao101 t292.length co101] 24 (0,0))):=⟨by (with_reducible repeat (first|refine blk_drewN ?_ _|refine blk_drew ?_|refine blk_alloc ?_ _));refine blk_far ?_ NB296_303.out _;(with_reducible repeat (first|refine blk_drewN ?_ _|refine blk_drew ?_|refine blk_alloc ?_ _));refine blk_far ?_ NB296_303.out _;(with_reducible repeat (first|refine blk_drewN ?_ _|refine blk_drew ?_|refine blk_alloc ?_ _));refine blk_far ?_ NB296_303.out _;(with_reducible repeat (first|refine blk_drewN ?_ _|refine blk_drew ?_|refine blk_alloc ?_ _));exact BK296.out⟩
          have n15_ : Aside0 ((((w128.setCell ⟨gb303,0,none⟩ (.int .i64 t297)).setCell ⟨gb303,1,none⟩ (.int .i64 t298)).setCell ⟨gb303,2,none⟩ (.slice Ao137 t299.length co137)).heap[gb303]? = some (.cells #[.int .i64 t297,.int .i64 t298,.slice Ao137 t299.length co137] 24 (0,0))):=⟨by (with_reducible repeat (first|refine blk_drewN ?_ _|refine blk_drew ?_|refine blk_alloc ?_ _));refine blk_put (cs:=#[.int .i64 t297,.int .i64 t298,.slice none 0 0]) ?_ 2 _ rfl;(with_reducible repeat (first|refine blk_drewN ?_ _|refine blk_drew ?_|refine blk_alloc ?_ _));refine blk_put (cs:=#[.int .i64 t297,.int .i64 0,.slice none 0 0]) ?_ 1 _ rfl;(with_reducible repeat (first|refine blk_drewN ?_ _|refine blk_drew ?_|refine blk_alloc ?_ _));refine blk_put (cs:=#[.int .i64 0,.int .i64 0,.slice none 0 0]) ?_ 0 _ rfl;(with_reducible repeat (first|refine blk_drewN ?_ _|refine blk_drew ?_|refine blk_alloc ?_ _));exact BK303.out⟩
          have n16_ : Aside0 (Below w.heap.size w (((w128.setCell ⟨gb303,0,none⟩ (.int .i64 t297)).setCell ⟨gb303,1,none⟩ (.int .i64 t298)).setCell ⟨gb303,2,none⟩ (.slice Ao137 t299.length co137))):=⟨by repeat (first|(with_reducible first|exact HB.out|apply ba|apply bb|apply bc|refine below_set ?_ GE257.out|refine below_set ?_ GE266.out|refine below_set ?_ GE273.out|refine below_set ?_ GE280.out|refine below_set ?_ GE287.out|refine below_set ?_ GE289.out|refine below_set ?_ GE296.out|refine below_set ?_ GE303.out)|exact HB.out)⟩
          (try clear HO_258002)
          (try clear HO_267002)
          (try clear HO_274002)
          (try clear HO_281002)
          (try clear HO_288002)
          (try clear HO_290002)
          (try clear HO_297002)
          (try clear HO301)
          (try clear BK257)
          (try clear BK266)
          (try clear BK273)
          (try clear BK280)
          (try clear BK287)
          (try clear BK289)
          (try clear BK296)
          (try clear BK303)
          (try clear HB)
          generalize (((w128.setCell ⟨gb303,0,none⟩ (.int .i64 t297)).setCell ⟨gb303,1,none⟩ (.int .i64 t298)).setCell ⟨gb303,2,none⟩ (.slice Ao137 t299.length co137)) = w138 at n0_ n1_ n2_ n3_ n4_ n5_ n6_ n7_ n8_ n9_ n10_ n11_ n12_ n13_ n14_ n15_ n16_ ⊢
          have HO_258002:=n0_
          have HO_267002:=n1_
          have HO_274002:=n2_
          have HO_281002:=n3_
          have HO_288002:=n4_
          have HO_290002:=n5_
          have HO_297002:=n6_
          have HO301:=n7_
          have BK257:=n8_
          have BK266:=n9_
          have BK273:=n10_
          have BK280:=n11_
          have BK287:=n12_
          have BK289:=n13_
          have BK296:=n14_
          have BK303:=n15_
          have HB:=n16_
          clear n0_ n1_ n2_ n3_ n4_ n5_ n6_ n7_ n8_ n9_ n10_ n11_ n12_ n13_ n14_ n15_ n16_
          have n0_:=A_ (Kd.R_drew HO_258002.out)
          have n1_:=A_ (Kd.R_drew HO_267002.out)
          have n2_:=A_ (Kd.R_drew HO_274002.out)
          have n3_:=A_ (Kd.R_drew HO_281002.out)
          have n4_:=A_ (Kd.R_drew HO_288002.out)
          have n5_:=A_ (Kd.R_drew HO_290002.out)
          have n6_:=A_ (Kd.R_drew HO_297002.out)
          have n7_:=A_ (Kd.R_drew HO301.out)
          have n8_:=A_ (blk_drew BK257.out)
          have n9_:=A_ (blk_drew BK266.out)
          have n10_:=A_ (blk_drew BK273.out)
          have n11_:=A_ (blk_drew BK280.out)
          have n12_:=A_ (blk_drew BK287.out)
          have n13_:=A_ (blk_drew BK289.out)
          have n14_:=A_ (blk_drew BK296.out)
          have n15_:=A_ (blk_drew BK303.out)
          have n16_:=A_ (below_drew1 HB.out)
          clear HO_258002
          clear HO_267002
          clear HO_274002
          clear HO_281002
          clear HO_288002
          clear HO_290002
          clear HO_297002
          clear HO301
          clear BK257
          clear BK266
          clear BK273
          clear BK280
          clear BK287
          clear BK289
          clear BK296
          clear BK303
          clear HB
          have HO_258002:=n0_
          have HO_267002:=n1_
          have HO_274002:=n2_
          have HO_281002:=n3_
          have HO_288002:=n4_
          have HO_290002:=n5_
          have HO_297002:=n6_
          have HO301:=n7_
          have BK257:=n8_
          have BK266:=n9_
          have BK273:=n10_
          have BK280:=n11_
          have BK287:=n12_
          have BK289:=n13_
          have BK296:=n14_
          have BK303:=n15_
          have HB:=n16_
          clear n0_ n1_ n2_ n3_ n4_ n5_ n6_ n7_ n8_ n9_ n10_ n11_ n12_ n13_ n14_ n15_ n16_
          refine start_ (n:=24) (S:=fun w'=>w'.cell? ⟨gb303,0,none⟩ = some (.int .i64 t297)∧w'.cell? ⟨gb303,1,none⟩ = some (.int .i64 t298)∧w'.cell? ⟨gb303,2,none⟩ = some (.slice Ao137 t299.length co137)∧w'.cell? ⟨gb289,0,none⟩ = some (.int .i64 (wrap64 (t267 + (wrap64 (t252 * (wrap64 (a3)))))))∧w'.cell? ⟨gb289,1,none⟩ = some (.int .i64 t268)∧w'.cell? ⟨gb289,2,none⟩ = some (.slice Ao33 t269.length co33)∧w'.cell? ⟨gb296,0,none⟩ = some (.int .i64 t290)∧w'.cell? ⟨gb296,1,none⟩ = some (.int .i64 t291)∧w'.cell? ⟨gb296,2,none⟩ = some (.slice Ao101 t292.length co101)∧w'.cell? ⟨gb266,0,none⟩ = some (.int .i64 t260)∧w'.cell? ⟨gb266,1,none⟩ = some (.int .i64 t261)∧w'.cell? ⟨gb266,2,none⟩ = some (.slice Ao25 t262.length co25)) (ds:=[]) #[false,false,false,false,false,false,false,false,false,false,false,false,false,false,false,false,false,false,false,false,false,false,false,false] (by kernel_rfl) rfl rfl ⟨(blk_cell BK303.out 0).trans rfl,(blk_cell BK303.out 1).trans rfl,(blk_cell BK303.out 2).trans rfl,(blk_cell BK289.out 0).trans rfl,(blk_cell BK289.out 1).trans rfl,(blk_cell BK289.out 2).trans rfl,(blk_cell BK296.out 0).trans rfl,(blk_cell BK296.out 1).trans rfl,(blk_cell BK296.out 2).trans rfl,(blk_cell BK266.out 0).trans rfl,(blk_cell BK266.out 1).trans rfl,(blk_cell BK266.out 2).trans rfl⟩ (fun hHeld=>?_);refine with_tabW shapesearchlaw09_SeriesParts.tab16 shapesearchlaw09_SeriesParts.bits16 (fun HT_ HW_=>?_)
          generalize w138.drew = w139 at HO_258002 HO_267002 HO_274002 HO_281002 HO_288002 HO_290002 HO_297002 HO301 BK257 BK266 BK273 BK280 BK287 BK289 BK296 BK303 HB hHeld ⊢
          refine pure_ (i:=0) (N:=some 131) (v:=?_) (a':=?_) #[true,false,false,false,false,false,false,false,false,false,false,false,false,false,false,false,false,false,false,false,false,false,false,false] rfl rfl (any_of HT_.out (by kernel_rfl)) (fun _ _ _ h=>h) (Or.inl ⟨by rfl,?_⟩) ?_ ?_
          rotate_left
          ·
           intro w'
           go_simp
           with_reducible rfl
          rotate_left
          ·
           simp only [Act.put,sa,sb,sc,i64_w,i32_w]
           rfl
          refine pure_ (i:=1) (N:=some 132) (v:=?_) (a':=?_) #[true,true,false,false,false,false,false,false,false,false,false,false,false,false,false,false,false,false,false,false,false,false,false,false] rfl rfl (any_of HT_.out (by kernel_rfl)) (fun _ _ _ h=>h) (Or.inl ⟨by rfl,?_⟩) ?_ ?_
          rotate_left
          ·
           intro w'
           go_simp
           with_reducible rfl
          rotate_left
          ·
           simp only [Act.put,sa,sb,sc,i64_w,i32_w]
           rfl
          refine pure_ (i:=2) (N:=some 133) (v:=?_) (a':=?_) #[true,true,true,false,false,false,false,false,false,false,false,false,false,false,false,false,false,false,false,false,false,false,false,false] rfl rfl (any_of HT_.out (by kernel_rfl)) (fun _ _ _ h=>h) (Or.inl ⟨by rfl,?_⟩) ?_ ?_
          rotate_left
          ·
           intro w'
           go_simp
           with_reducible rfl
          rotate_left
          ·
           simp only [Act.put,sa,sb,sc,i64_w,i32_w]
           rfl
          refine take_ (i:=3) (N:=some 134) (v:=?_) (a':=?_) #[true,true,true,true,false,false,false,false,false,false,false,false,false,false,false,false,false,false,false,false,false,false,false,false] rfl rfl (take_ofW HT_.out HW_.out (by kernel_rfl)) (fun _ _ _ h=>h) (Or.inl ⟨by rfl,?_⟩) hHeld ?_ ?_
          rotate_left
          ·
           rintro w' ⟨s0,s1,s2,s3,s4,s5,s6,s7,s8,s9,s10,s11⟩
           go_simp
           with_reducible rfl
          rotate_left
          ·
           simp only [Act.put,sa,sb,sc,i64_w,i32_w]
           rfl
          refine take_ (i:=4) (N:=some 135) (v:=?_) (a':=?_) #[true,true,true,true,true,false,false,false,false,false,false,false,false,false,false,false,false,false,false,false,false,false,false,false] rfl rfl (take_ofW HT_.out HW_.out (by kernel_rfl)) (fun _ _ _ h=>h) (Or.inl ⟨by rfl,?_⟩) hHeld ?_ ?_
          rotate_left
          ·
           rintro w' ⟨s0,s1,s2,s3,s4,s5,s6,s7,s8,s9,s10,s11⟩
           go_simp
           with_reducible rfl
          rotate_left
          ·
           simp only [Act.put,sa,sb,sc,i64_w,i32_w]
           rfl
          refine one_ (i:=5) (N:=some 136) #[true,true,true,true,true,true,false,false,false,false,false,false,false,false,false,false,false,false,false,false,false,false,false,false] rfl rfl (one_of HT_.out (by kernel_rfl)) (by decide) (fun K hK=>?_)
          refine goes_ Try.func21 (by kernel_rfl) rfl #[.agg #[.int .i64 t297,.int .i64 t298,.slice Ao137 t299.length co137],.agg #[.int .i64 (wrap64 (t267 + (wrap64 (t252 * (wrap64 (a3)))))),.int .i64 t268,.slice Ao33 t269.length co33]] (by rfl) rfl rfl (by (try simp only [List.map_toArray,List.map_cons,List.map_nil]);first|done|rfl|(simp only [List.length_drop,List.length_take];rfl)) ?_
          with_reducible refine (shapesearchref09_Same.calls kj71 t297 t298 _ _ t299 (wrap64 (t267 + (wrap64 (t252 * (wrap64 (a3)))))) t268 _ _ t269 true _ ?side1 ?side2 ?side3 ?side4 A113.out).mono ?_
          (case side1=>repeat (first|exact (rd_ HO301.out).2.2|(with_reducible refine ca ?_ _)|(with_reducible refine cb ?_ _)|(with_reducible refine cc ?_)))
          (case side2=>exact (rd_ HO301.out).2.1)
          (case side3=>repeat (first|exact (rd_ HO_290002.out).2.2|(with_reducible refine ca ?_ _)|(with_reducible refine cb ?_ _)|(with_reducible refine cc ?_)))
          (case side4=>exact (rd_ HO_290002.out).2.1)
          rintro e w140 ⟨rfl,hb⟩
          refine ⟨_,rfl,?_⟩
          have n0_:=A_ (rw_ (by (with_reducible repeat (first|apply ra|apply rb|apply rc));exact HO_258002.out) hb)
          have n1_:=A_ (rw_ (by (with_reducible repeat (first|apply ra|apply rb|apply rc));exact HO_267002.out) hb)
          have n2_:=A_ (rw_ (by (with_reducible repeat (first|apply ra|apply rb|apply rc));exact HO_274002.out) hb)
          have n3_:=A_ (rw_ (by (with_reducible repeat (first|apply ra|apply rb|apply rc));exact HO_281002.out) hb)
          have n4_:=A_ (rw_ (by (with_reducible repeat (first|apply ra|apply rb|apply rc));exact HO_288002.out) hb)
          have n5_:=A_ (rw_ (by (with_reducible repeat (first|apply ra|apply rb|apply rc));exact HO_290002.out) hb)
          have n6_:=A_ (rw_ (by (with_reducible repeat (first|apply ra|apply rb|apply rc));exact HO_297002.out) hb)
          have n7_:=A_ (rw_ (by (with_reducible repeat (first|apply ra|apply rb|apply rc));exact HO301.out) hb)
          have n8_:=A_ (blk_below (g:=gb257) (o:=.cells #[.int .i64 t251,.int .i64 t252,.slice Ao19 t253.length co19] 24 (0,0)) (by (with_reducible repeat (first|refine blk_drewN ?_ _|refine blk_drew ?_|refine blk_alloc ?_ _));exact BK257.out) hb)
          have n9_:=A_ (blk_below (g:=gb266) (o:=.cells #[.int .i64 t260,.int .i64 t261,.slice Ao25 t262.length co25] 24 (0,0)) (by (with_reducible repeat (first|refine blk_drewN ?_ _|refine blk_drew ?_|refine blk_alloc ?_ _));exact BK266.out) hb)
          have n10_:=A_ (blk_below (g:=gb273) (o:=.cells #[.int .i64 t267,.int .i64 t268,.slice Ao33 t269.length co33] 24 (0,0)) (by (with_reducible repeat (first|refine blk_drewN ?_ _|refine blk_drew ?_|refine blk_alloc ?_ _));exact BK273.out) hb)
          have n11_:=A_ (blk_below (g:=gb280) (o:=.cells #[.int .i64 t274,.int .i64 t275,.slice Ao42 t276.length co42] 24 (0,0)) (by (with_reducible repeat (first|refine blk_drewN ?_ _|refine blk_drew ?_|refine blk_alloc ?_ _));exact BK280.out) hb)
          have n12_:=A_ (blk_below (g:=gb287) (o:=.cells #[.int .i64 t281,.int .i64 t282,.slice Ao52 t283.length co52] 24 (0,0)) (by (with_reducible repeat (first|refine blk_drewN ?_ _|refine blk_drew ?_|refine blk_alloc ?_ _));exact BK287.out) hb)
          have n13_:=A_ (blk_below (g:=gb289) (o:=.cells #[.int .i64 (wrap64 (t267 + (wrap64 (t252 * (wrap64 (a3)))))),.int .i64 t268,.slice Ao33 t269.length co33] 24 (0,0)) (by (with_reducible repeat (first|refine blk_drewN ?_ _|refine blk_drew ?_|refine blk_alloc ?_ _));exact BK289.out) hb)
          have n14_:=A_ (blk_below (g:=gb296) (o:=.cells #[.int .i64 t290,.int .i64 t291,.slice Ao101 t292.length co101] 24 (0,0)) (by (with_reducible repeat (first|refine blk_drewN ?_ _|refine blk_drew ?_|refine blk_alloc ?_ _));exact BK296.out) hb)
          have n15_:=A_ (blk_below (g:=gb303) (o:=.cells #[.int .i64 t297,.int .i64 t298,.slice Ao137 t299.length co137] 24 (0,0)) (by (with_reducible repeat (first|refine blk_drewN ?_ _|refine blk_drew ?_|refine blk_alloc ?_ _));exact BK303.out) hb)
          have n16_:=A_ (below_step (by repeat (first|(with_reducible first|exact HB.out|apply ba|apply bb|apply bc|refine below_set ?_ GE257.out|refine below_set ?_ GE266.out|refine below_set ?_ GE273.out|refine below_set ?_ GE280.out|refine below_set ?_ GE287.out|refine below_set ?_ GE289.out|refine below_set ?_ GE296.out|refine below_set ?_ GE303.out)|exact HB.out)) hb)
          clear HO_258002
          clear HO_267002
          clear HO_274002
          clear HO_281002
          clear HO_288002
          clear HO_290002
          clear HO_297002
          clear HO301
          clear BK257
          clear BK266
          clear BK273
          clear BK280
          clear BK287
          clear BK289
          clear BK296
          clear BK303
          clear HB
          have HO_258002:=n0_
          have HO_267002:=n1_
          have HO_274002:=n2_
          have HO_281002:=n3_
          have HO_288002:=n4_
          have HO_290002:=n5_
          have HO_297002:=n6_
          have HO301:=n7_
          have BK257:=n8_
          have BK266:=n9_
          have BK273:=n10_
          have BK280:=n11_
          have BK287:=n12_
          have BK289:=n13_
          have BK296:=n14_
          have BK303:=n15_
          have HB:=n16_
          clear n0_ n1_ n2_ n3_ n4_ n5_ n6_ n7_ n8_ n9_ n10_ n11_ n12_ n13_ n14_ n15_ n16_
          (try clear hb)
          (try clear hb2)
          (try clear hk)
          (try clear hi)
          refine hK.out _ _ ⟨(blk_cell BK303.out 0).trans rfl,(blk_cell BK303.out 1).trans rfl,(blk_cell BK303.out 2).trans rfl,(blk_cell BK289.out 0).trans rfl,(blk_cell BK289.out 1).trans rfl,(blk_cell BK289.out 2).trans rfl,(blk_cell BK296.out 0).trans rfl,(blk_cell BK296.out 1).trans rfl,(blk_cell BK296.out 2).trans rfl,(blk_cell BK266.out 0).trans rfl,(blk_cell BK266.out 1).trans rfl,(blk_cell BK266.out 2).trans rfl⟩ (fun hHeld=>?_)
          clear hK K
          refine norm_ (a':=?_) ?_ ?_
          rotate_left
          ·
           show Act.put _ (some 136) _ = _
           simp only [Act.put,sa,sb,sc,i64_w,i32_w]
           rfl
          refine pure_ (i:=6) (N:=some 137) (v:=?_) (a':=?_) #[true,true,true,true,true,true,true,false,false,false,false,false,false,false,false,false,false,false,false,false,false,false,false,false] rfl rfl (any_of HT_.out (by kernel_rfl)) (fun _ _ _ h=>h) (Or.inl ⟨by rfl,?_⟩) ?_ ?_
          rotate_left
          ·
           intro w'
           go_simp
           with_reducible rfl
          rotate_left
          ·
           simp only [Act.put,sa,sb,sc,i64_w,i32_w]
           rfl
          refine pure_ (i:=7) (N:=some 138) (v:=?_) (a':=?_) #[true,true,true,true,true,true,true,true,false,false,false,false,false,false,false,false,false,false,false,false,false,false,false,false] rfl rfl (any_of HT_.out (by kernel_rfl)) (fun _ _ _ h=>h) (Or.inl ⟨by rfl,?_⟩) ?_ ?_
          rotate_left
          ·
           intro w'
           go_simp
           with_reducible rfl
          rotate_left
          ·
           simp only [Act.put,sa,sb,sc,i64_w,i32_w]
           rfl
          refine take_ (i:=8) (N:=some 139) (v:=?_) (a':=?_) #[true,true,true,true,true,true,true,true,true,false,false,false,false,false,false,false,false,false,false,false,false,false,false,false] rfl rfl (take_ofW HT_.out HW_.out (by kernel_rfl)) (fun _ _ _ h=>h) (Or.inl ⟨by rfl,?_⟩) hHeld ?_ ?_
          rotate_left
          ·
           rintro w' ⟨s0,s1,s2,s3,s4,s5,s6,s7,s8,s9,s10,s11⟩
           go_simp
           with_reducible rfl
          rotate_left
          ·
           simp only [Act.put,sa,sb,sc,i64_w,i32_w]
           rfl
          refine take_ (i:=11) (N:=some 142) (v:=?_) (a':=?_) #[true,true,true,true,true,true,true,true,true,false,false,true,false,false,false,false,false,false,false,false,false,false,false,false] rfl rfl (take_ofW HT_.out HW_.out (by kernel_rfl)) (fun _ _ _ h=>h) (Or.inl ⟨by rfl,?_⟩) hHeld ?_ ?_
          rotate_left
          ·
           rintro w' ⟨s0,s1,s2,s3,s4,s5,s6,s7,s8,s9,s10,s11⟩
           go_simp
           with_reducible rfl
          rotate_left
          ·
           simp only [Act.put,sa,sb,sc,i64_w,i32_w]
           rfl
          refine take_ (i:=14) (N:=some 145) (v:=?_) (a':=?_) #[true,true,true,true,true,true,true,true,true,false,false,true,false,false,true,false,false,false,false,false,false,false,false,false] rfl rfl (take_ofW HT_.out HW_.out (by kernel_rfl)) (fun _ _ _ h=>h) (Or.inl ⟨by rfl,?_⟩) hHeld ?_ ?_
          rotate_left
          ·
           rintro w' ⟨s0,s1,s2,s3,s4,s5,s6,s7,s8,s9,s10,s11⟩
           go_simp
           with_reducible rfl
          rotate_left
          ·
           simp only [Act.put,sa,sb,sc,i64_w,i32_w]
           rfl
          refine one_ (i:=9) (N:=some 140) #[true,true,true,true,true,true,true,true,true,true,false,true,false,false,true,false,false,false,false,false,false,false,false,false] rfl rfl (one_of HT_.out (by kernel_rfl)) (by decide) (fun K hK=>?_)
          refine goes_ Try.func11 (by kernel_rfl) rfl #[.agg #[.int .i64 t290,.int .i64 t291,.slice Ao101 t292.length co101],.int .i64 1] (by rfl) rfl rfl (by (try simp only [List.map_toArray,List.map_cons,List.map_nil]);first|done|rfl|(simp only [List.length_drop,List.length_take];rfl)) ?_
          with_reducible refine (series_Starts.calls kj71 t290 t291 _ _ t292 1 t305 _ ?side1 ?side2 A115.out).mono ?_
          (case side1=>repeat (first|exact (rd_ HO_297002.out).2.2|(with_reducible refine ca ?_ _)|(with_reducible refine cb ?_ _)|(with_reducible refine cc ?_)))
          (case side2=>exact (rd_ HO_297002.out).2.1)
          rintro e w141 ⟨v306,rfl,ho0,hb⟩
          refine ⟨_,rfl,?_⟩
          have n0_:=A_ (re (by (with_reducible repeat (first|apply ra|apply rb|apply rc));exact HO_258002.out) (rs ho0) hb)
          have n1_:=A_ (re (by (with_reducible repeat (first|apply ra|apply rb|apply rc));exact HO_267002.out) (rs ho0) hb)
          have n2_:=A_ (re (by (with_reducible repeat (first|apply ra|apply rb|apply rc));exact HO_274002.out) (rs ho0) hb)
          have n3_:=A_ (re (by (with_reducible repeat (first|apply ra|apply rb|apply rc));exact HO_281002.out) (rs ho0) hb)
          have n4_:=A_ (re (by (with_reducible repeat (first|apply ra|apply rb|apply rc));exact HO_288002.out) (rs ho0) hb)
          have n5_:=A_ (re (by (with_reducible repeat (first|apply ra|apply rb|apply rc));exact HO_290002.out) (rs ho0) hb)
          have n6_:=A_ (re (by (with_reducible repeat (first|apply ra|apply rb|apply rc));exact HO_297002.out) (rs ho0) hb)
          have n7_:=A_ (re (by (with_reducible repeat (first|apply ra|apply rb|apply rc));exact HO301.out) (rs ho0) hb)
          have n8_:=A_ (Kd.R_lower (rn (rn (rn (rn (rn (rn (rn (rn ho0 (rl (by (with_reducible repeat (first|apply ra|apply rb|apply rc));exact HO_258002.out))) (rl (by (with_reducible repeat (first|apply ra|apply rb|apply rc));exact HO_267002.out))) (rl (by (with_reducible repeat (first|apply ra|apply rb|apply rc));exact HO_274002.out))) (rl (by (with_reducible repeat (first|apply ra|apply rb|apply rc));exact HO_281002.out))) (rl (by (with_reducible repeat (first|apply ra|apply rb|apply rc));exact HO_288002.out))) (rl (by (with_reducible repeat (first|apply ra|apply rb|apply rc));exact HO_290002.out))) (rl (by (with_reducible repeat (first|apply ra|apply rb|apply rc));exact HO_297002.out))) (rl (by (with_reducible repeat (first|apply ra|apply rb|apply rc));exact HO301.out))) (below_size (by repeat (first|(with_reducible first|exact HB.out|apply ba|apply bb|apply bc|refine below_set ?_ GE257.out|refine below_set ?_ GE266.out|refine below_set ?_ GE273.out|refine below_set ?_ GE280.out|refine below_set ?_ GE287.out|refine below_set ?_ GE289.out|refine below_set ?_ GE296.out|refine below_set ?_ GE303.out)|exact HB.out))))
          have n9_:=A_ (blk_below (g:=gb257) (o:=.cells #[.int .i64 t251,.int .i64 t252,.slice Ao19 t253.length co19] 24 (0,0)) (by (with_reducible repeat (first|refine blk_drewN ?_ _|refine blk_drew ?_|refine blk_alloc ?_ _));exact BK257.out) hb)
          have n10_:=A_ (blk_below (g:=gb266) (o:=.cells #[.int .i64 t260,.int .i64 t261,.slice Ao25 t262.length co25] 24 (0,0)) (by (with_reducible repeat (first|refine blk_drewN ?_ _|refine blk_drew ?_|refine blk_alloc ?_ _));exact BK266.out) hb)
          have n11_:=A_ (blk_below (g:=gb273) (o:=.cells #[.int .i64 t267,.int .i64 t268,.slice Ao33 t269.length co33] 24 (0,0)) (by (with_reducible repeat (first|refine blk_drewN ?_ _|refine blk_drew ?_|refine blk_alloc ?_ _));exact BK273.out) hb)
          have n12_:=A_ (blk_below (g:=gb280) (o:=.cells #[.int .i64 t274,.int .i64 t275,.slice Ao42 t276.length co42] 24 (0,0)) (by (with_reducible repeat (first|refine blk_drewN ?_ _|refine blk_drew ?_|refine blk_alloc ?_ _));exact BK280.out) hb)
          have n13_:=A_ (blk_below (g:=gb287) (o:=.cells #[.int .i64 t281,.int .i64 t282,.slice Ao52 t283.length co52] 24 (0,0)) (by (with_reducible repeat (first|refine blk_drewN ?_ _|refine blk_drew ?_|refine blk_alloc ?_ _));exact BK287.out) hb)
          have n14_:=A_ (blk_below (g:=gb289) (o:=.cells #[.int .i64 (wrap64 (t267 + (wrap64 (t252 * (wrap64 (a3)))))),.int .i64 t268,.slice Ao33 t269.length co33] 24 (0,0)) (by (with_reducible repeat (first|refine blk_drewN ?_ _|refine blk_drew ?_|refine blk_alloc ?_ _));exact BK289.out) hb)
          have n15_:=A_ (blk_below (g:=gb296) (o:=.cells #[.int .i64 t290,.int .i64 t291,.slice Ao101 t292.length co101] 24 (0,0)) (by (with_reducible repeat (first|refine blk_drewN ?_ _|refine blk_drew ?_|refine blk_alloc ?_ _));exact BK296.out) hb)
          have n16_:=A_ (blk_below (g:=gb303) (o:=.cells #[.int .i64 t297,.int .i64 t298,.slice Ao137 t299.length co137] 24 (0,0)) (by (with_reducible repeat (first|refine blk_drewN ?_ _|refine blk_drew ?_|refine blk_alloc ?_ _));exact BK303.out) hb)
          have n17_:=A_ (below_step (by repeat (first|(with_reducible first|exact HB.out|apply ba|apply bb|apply bc|refine below_set ?_ GE257.out|refine below_set ?_ GE266.out|refine below_set ?_ GE273.out|refine below_set ?_ GE280.out|refine below_set ?_ GE287.out|refine below_set ?_ GE289.out|refine below_set ?_ GE296.out|refine below_set ?_ GE303.out)|exact HB.out)) hb)
          clear HO_258002
          clear HO_267002
          clear HO_274002
          clear HO_281002
          clear HO_288002
          clear HO_290002
          clear HO_297002
          clear HO301
          clear BK257
          clear BK266
          clear BK273
          clear BK280
          clear BK287
          clear BK289
          clear BK296
          clear BK303
          clear HB
          have HO_258002:=n0_
          have HO_267002:=n1_
          have HO_274002:=n2_
          have HO_281002:=n3_
          have HO_288002:=n4_
          have HO_290002:=n5_
          have HO_297002:=n6_
          have HO301:=n7_
          have HO307:=n8_
          have BK257:=n9_
          have BK266:=n10_
          have BK273:=n11_
          have BK280:=n12_
          have BK287:=n13_
          have BK289:=n14_
          have BK296:=n15_
          have BK303:=n16_
          have HB:=n17_
          clear n0_ n1_ n2_ n3_ n4_ n5_ n6_ n7_ n8_ n9_ n10_ n11_ n12_ n13_ n14_ n15_ n16_ n17_
          (try clear hb)
          (try clear hb2)
          (try clear hk)
          (try clear hi)
          (try clear ho0)
          obtain ⟨Ao142,co142,eo142⟩:=Kd.R_slice HO307.out
          (first|subst eo142|(injection eo142 with f1_ f2_ f3_;have f4_:=f1_.symm;have f5_:=f3_.symm;clear f1_ f2_ f3_;subst f4_;subst f5_))
          refine hK.out _ _ ⟨(blk_cell BK303.out 0).trans rfl,(blk_cell BK303.out 1).trans rfl,(blk_cell BK303.out 2).trans rfl,(blk_cell BK289.out 0).trans rfl,(blk_cell BK289.out 1).trans rfl,(blk_cell BK289.out 2).trans rfl,(blk_cell BK296.out 0).trans rfl,(blk_cell BK296.out 1).trans rfl,(blk_cell BK296.out 2).trans rfl,(blk_cell BK266.out 0).trans rfl,(blk_cell BK266.out 1).trans rfl,(blk_cell BK266.out 2).trans rfl⟩ (fun hHeld=>?_)
          clear hK K
          refine norm_ (a':=?_) ?_ ?_
          rotate_left
          ·
           show Act.put _ (some 140) _ = _
           simp only [Act.put,sa,sb,sc,i64_w,i32_w]
           rfl
          refine pure_ (i:=10) (N:=some 141) (v:=?_) (a':=?_) #[true,true,true,true,true,true,true,true,true,true,true,true,false,false,true,false,false,false,false,false,false,false,false,false] rfl rfl (any_of HT_.out (by kernel_rfl)) (fun _ _ _ h=>h) (Or.inl ⟨by rfl,?_⟩) ?_ ?_
          rotate_left
          ·
           intro w'
           go_simp
           with_reducible rfl
          rotate_left
          ·
           simp only [Act.put,sa,sb,sc,i64_w,i32_w]
           rfl
          refine one_ (i:=12) (N:=some 143) #[true,true,true,true,true,true,true,true,true,true,true,true,true,false,true,false,false,false,false,false,false,false,false,false] rfl rfl (one_of HT_.out (by kernel_rfl)) (by decide) (fun K hK=>?_)
          refine goes_ Try.func11 (by kernel_rfl) rfl #[.agg #[.int .i64 t260,.int .i64 t261,.slice Ao25 t262.length co25],.int .i64 1] (by rfl) rfl rfl (by (try simp only [List.map_toArray,List.map_cons,List.map_nil]);first|done|rfl|(simp only [List.length_drop,List.length_take];rfl)) ?_
          with_reducible refine (series_Starts.calls kj71 t260 t261 _ _ t262 1 t308 _ ?side1 ?side2 A116.out).mono ?_
          (case side1=>repeat (first|exact (rd_ HO_267002.out).2.2|(with_reducible refine ca ?_ _)|(with_reducible refine cb ?_ _)|(with_reducible refine cc ?_)))
          (case side2=>exact (rd_ HO_267002.out).2.1)
          rintro e w143 ⟨v309,rfl,ho0,hb⟩
          refine ⟨_,rfl,?_⟩
          have n0_:=A_ (re (by (with_reducible repeat (first|apply ra|apply rb|apply rc));exact HO_258002.out) (rs ho0) hb)
          have n1_:=A_ (re (by (with_reducible repeat (first|apply ra|apply rb|apply rc));exact HO_267002.out) (rs ho0) hb)
          have n2_:=A_ (re (by (with_reducible repeat (first|apply ra|apply rb|apply rc));exact HO_274002.out) (rs ho0) hb)
          have n3_:=A_ (re (by (with_reducible repeat (first|apply ra|apply rb|apply rc));exact HO_281002.out) (rs ho0) hb)
          have n4_:=A_ (re (by (with_reducible repeat (first|apply ra|apply rb|apply rc));exact HO_288002.out) (rs ho0) hb)
          have n5_:=A_ (re (by (with_reducible repeat (first|apply ra|apply rb|apply rc));exact HO_290002.out) (rs ho0) hb)
          have n6_:=A_ (re (by (with_reducible repeat (first|apply ra|apply rb|apply rc));exact HO_297002.out) (rs ho0) hb)
          have n7_:=A_ (re (by (with_reducible repeat (first|apply ra|apply rb|apply rc));exact HO301.out) (rs ho0) hb)
          have n8_:=A_ (re (by (with_reducible repeat (first|apply ra|apply rb|apply rc));exact HO307.out) (rs ho0) hb)
          have n9_:=A_ (Kd.R_lower (rn (rn (rn (rn (rn (rn (rn (rn (rn ho0 (rl (by (with_reducible repeat (first|apply ra|apply rb|apply rc));exact HO_258002.out))) (rl (by (with_reducible repeat (first|apply ra|apply rb|apply rc));exact HO_267002.out))) (rl (by (with_reducible repeat (first|apply ra|apply rb|apply rc));exact HO_274002.out))) (rl (by (with_reducible repeat (first|apply ra|apply rb|apply rc));exact HO_281002.out))) (rl (by (with_reducible repeat (first|apply ra|apply rb|apply rc));exact HO_288002.out))) (rl (by (with_reducible repeat (first|apply ra|apply rb|apply rc));exact HO_290002.out))) (rl (by (with_reducible repeat (first|apply ra|apply rb|apply rc));exact HO_297002.out))) (rl (by (with_reducible repeat (first|apply ra|apply rb|apply rc));exact HO301.out))) (rl (by (with_reducible repeat (first|apply ra|apply rb|apply rc));exact HO307.out))) (below_size (by repeat (first|(with_reducible first|exact HB.out|apply ba|apply bb|apply bc|refine below_set ?_ GE257.out|refine below_set ?_ GE266.out|refine below_set ?_ GE273.out|refine below_set ?_ GE280.out|refine below_set ?_ GE287.out|refine below_set ?_ GE289.out|refine below_set ?_ GE296.out|refine below_set ?_ GE303.out)|exact HB.out))))
          have n10_:=A_ (blk_below (g:=gb257) (o:=.cells #[.int .i64 t251,.int .i64 t252,.slice Ao19 t253.length co19] 24 (0,0)) (by (with_reducible repeat (first|refine blk_drewN ?_ _|refine blk_drew ?_|refine blk_alloc ?_ _));exact BK257.out) hb)
          have n11_:=A_ (blk_below (g:=gb266) (o:=.cells #[.int .i64 t260,.int .i64 t261,.slice Ao25 t262.length co25] 24 (0,0)) (by (with_reducible repeat (first|refine blk_drewN ?_ _|refine blk_drew ?_|refine blk_alloc ?_ _));exact BK266.out) hb)
          have n12_:=A_ (blk_below (g:=gb273) (o:=.cells #[.int .i64 t267,.int .i64 t268,.slice Ao33 t269.length co33] 24 (0,0)) (by (with_reducible repeat (first|refine blk_drewN ?_ _|refine blk_drew ?_|refine blk_alloc ?_ _));exact BK273.out) hb)
          have n13_:=A_ (blk_below (g:=gb280) (o:=.cells #[.int .i64 t274,.int .i64 t275,.slice Ao42 t276.length co42] 24 (0,0)) (by (with_reducible repeat (first|refine blk_drewN ?_ _|refine blk_drew ?_|refine blk_alloc ?_ _));exact BK280.out) hb)
          have n14_:=A_ (blk_below (g:=gb287) (o:=.cells #[.int .i64 t281,.int .i64 t282,.slice Ao52 t283.length co52] 24 (0,0)) (by (with_reducible repeat (first|refine blk_drewN ?_ _|refine blk_drew ?_|refine blk_alloc ?_ _));exact BK287.out) hb)
          have n15_:=A_ (blk_below (g:=gb289) (o:=.cells #[.int .i64 (wrap64 (t267 + (wrap64 (t252 * (wrap64 (a3)))))),.int .i64 t268,.slice Ao33 t269.length co33] 24 (0,0)) (by (with_reducible repeat (first|refine blk_drewN ?_ _|refine blk_drew ?_|refine blk_alloc ?_ _));exact BK289.out) hb)
          have n16_:=A_ (blk_below (g:=gb296) (o:=.cells #[.int .i64 t290,.int .i64 t291,.slice Ao101 t292.length co101] 24 (0,0)) (by (with_reducible repeat (first|refine blk_drewN ?_ _|refine blk_drew ?_|refine blk_alloc ?_ _));exact BK296.out) hb)
          have n17_:=A_ (blk_below (g:=gb303) (o:=.cells #[.int .i64 t297,.int .i64 t298,.slice Ao137 t299.length co137] 24 (0,0)) (by (with_reducible repeat (first|refine blk_drewN ?_ _|refine blk_drew ?_|refine blk_alloc ?_ _));exact BK303.out) hb)
          have n18_:=A_ (below_step (by repeat (first|(with_reducible first|exact HB.out|apply ba|apply bb|apply bc|refine below_set ?_ GE257.out|refine below_set ?_ GE266.out|refine below_set ?_ GE273.out|refine below_set ?_ GE280.out|refine below_set ?_ GE287.out|refine below_set ?_ GE289.out|refine below_set ?_ GE296.out|refine below_set ?_ GE303.out)|exact HB.out)) hb)
          clear HO_258002
          clear HO_267002
          clear HO_274002
          clear HO_281002
          clear HO_288002
          clear HO_290002
          clear HO_297002
          clear HO301
          clear HO307
          clear BK257
          clear BK266
          clear BK273
          clear BK280
          clear BK287
          clear BK289
          clear BK296
          clear BK303
          clear HB
          have HO_258002:=n0_
          have HO_267002:=n1_
          have HO_274002:=n2_
          have HO_281002:=n3_
          have HO_288002:=n4_
          have HO_290002:=n5_
          have HO_297002:=n6_
          have HO301:=n7_
          have HO307:=n8_
          have HO310:=n9_
          have BK257:=n10_
          have BK266:=n11_
          have BK273:=n12_
          have BK280:=n13_
          have BK287:=n14_
          have BK289:=n15_
          have BK296:=n16_
          have BK303:=n17_
          have HB:=n18_
          clear n0_ n1_ n2_ n3_ n4_ n5_ n6_ n7_ n8_ n9_ n10_ n11_ n12_ n13_ n14_ n15_ n16_ n17_ n18_
          (try clear hb)
          (try clear hb2)
          (try clear hk)
          (try clear hi)
          (try clear ho0)
          obtain ⟨Ao144,co144,eo144⟩:=Kd.R_slice HO310.out
          (first|subst eo144|(injection eo144 with f1_ f2_ f3_;have f4_:=f1_.symm;have f5_:=f3_.symm;clear f1_ f2_ f3_;subst f4_;subst f5_))
          refine hK.out _ _ ⟨(blk_cell BK303.out 0).trans rfl,(blk_cell BK303.out 1).trans rfl,(blk_cell BK303.out 2).trans rfl,(blk_cell BK289.out 0).trans rfl,(blk_cell BK289.out 1).trans rfl,(blk_cell BK289.out 2).trans rfl,(blk_cell BK296.out 0).trans rfl,(blk_cell BK296.out 1).trans rfl,(blk_cell BK296.out 2).trans rfl,(blk_cell BK266.out 0).trans rfl,(blk_cell BK266.out 1).trans rfl,(blk_cell BK266.out 2).trans rfl⟩ (fun hHeld=>?_)
          clear hK K
          refine norm_ (a':=?_) ?_ ?_
          rotate_left
          ·
           show Act.put _ (some 143) _ = _
           simp only [Act.put,sa,sb,sc,i64_w,i32_w]
           rfl
          refine pure_ (i:=13) (N:=some 144) (v:=?_) (a':=?_) #[true,true,true,true,true,true,true,true,true,true,true,true,true,true,true,false,false,false,false,false,false,false,false,false] rfl rfl (any_of HT_.out (by kernel_rfl)) (fun _ _ _ h=>h) (Or.inl ⟨by rfl,?_⟩) ?_ ?_
          rotate_left
          ·
           intro w'
           go_simp
           with_reducible rfl
          rotate_left
          ·
           simp only [Act.put,sa,sb,sc,i64_w,i32_w]
           rfl
          refine one_ (i:=15) (N:=some 146) #[true,true,true,true,true,true,true,true,true,true,true,true,true,true,true,true,false,false,false,false,false,false,false,false] rfl rfl (one_of HT_.out (by kernel_rfl)) (by decide) (fun K hK=>?_)
          refine goes_ Try.func11 (by kernel_rfl) rfl #[.agg #[.int .i64 (wrap64 (t267 + (wrap64 (t252 * (wrap64 (a3)))))),.int .i64 t268,.slice Ao33 t269.length co33],.int .i64 1] (by rfl) rfl rfl (by (try simp only [List.map_toArray,List.map_cons,List.map_nil]);first|done|rfl|(simp only [List.length_drop,List.length_take];rfl)) ?_
          with_reducible refine (series_Starts.calls kj71 (wrap64 (t267 + (wrap64 (t252 * (wrap64 (a3)))))) t268 _ _ t269 1 t311 _ ?side1 ?side2 A117.out).mono ?_
          (case side1=>repeat (first|exact (rd_ HO_290002.out).2.2|(with_reducible refine ca ?_ _)|(with_reducible refine cb ?_ _)|(with_reducible refine cc ?_)))
          (case side2=>exact (rd_ HO_290002.out).2.1)
          rintro e w145 ⟨v312,rfl,ho0,hb⟩
          refine ⟨_,rfl,?_⟩
          have n0_:=A_ (re (by (with_reducible repeat (first|apply ra|apply rb|apply rc));exact HO_258002.out) (rs ho0) hb)
          have n1_:=A_ (re (by (with_reducible repeat (first|apply ra|apply rb|apply rc));exact HO_267002.out) (rs ho0) hb)
          have n2_:=A_ (re (by (with_reducible repeat (first|apply ra|apply rb|apply rc));exact HO_274002.out) (rs ho0) hb)
          have n3_:=A_ (re (by (with_reducible repeat (first|apply ra|apply rb|apply rc));exact HO_281002.out) (rs ho0) hb)
          have n4_:=A_ (re (by (with_reducible repeat (first|apply ra|apply rb|apply rc));exact HO_288002.out) (rs ho0) hb)
          have n5_:=A_ (re (by (with_reducible repeat (first|apply ra|apply rb|apply rc));exact HO_290002.out) (rs ho0) hb)
          have n6_:=A_ (re (by (with_reducible repeat (first|apply ra|apply rb|apply rc));exact HO_297002.out) (rs ho0) hb)
          have n7_:=A_ (re (by (with_reducible repeat (first|apply ra|apply rb|apply rc));exact HO301.out) (rs ho0) hb)
          have n8_:=A_ (re (by (with_reducible repeat (first|apply ra|apply rb|apply rc));exact HO307.out) (rs ho0) hb)
          have n9_:=A_ (re (by (with_reducible repeat (first|apply ra|apply rb|apply rc));exact HO310.out) (rs ho0) hb)
          have n10_:=A_ (Kd.R_lower (rn (rn (rn (rn (rn (rn (rn (rn (rn (rn ho0 (rl (by (with_reducible repeat (first|apply ra|apply rb|apply rc));exact HO_258002.out))) (rl (by (with_reducible repeat (first|apply ra|apply rb|apply rc));exact HO_267002.out))) (rl (by (with_reducible repeat (first|apply ra|apply rb|apply rc));exact HO_274002.out))) (rl (by (with_reducible repeat (first|apply ra|apply rb|apply rc));exact HO_281002.out))) (rl (by (with_reducible repeat (first|apply ra|apply rb|apply rc));exact HO_288002.out))) (rl (by (with_reducible repeat (first|apply ra|apply rb|apply rc));exact HO_290002.out))) (rl (by (with_reducible repeat (first|apply ra|apply rb|apply rc));exact HO_297002.out))) (rl (by (with_reducible repeat (first|apply ra|apply rb|apply rc));exact HO301.out))) (rl (by (with_reducible repeat (first|apply ra|apply rb|apply rc));exact HO307.out))) (rl (by (with_reducible repeat (first|apply ra|apply rb|apply rc));exact HO310.out))) (below_size (by repeat (first|(with_reducible first|exact HB.out|apply ba|apply bb|apply bc|refine below_set ?_ GE257.out|refine below_set ?_ GE266.out|refine below_set ?_ GE273.out|refine below_set ?_ GE280.out|refine below_set ?_ GE287.out|refine below_set ?_ GE289.out|refine below_set ?_ GE296.out|refine below_set ?_ GE303.out)|exact HB.out))))
          have n11_:=A_ (blk_below (g:=gb257) (o:=.cells #[.int .i64 t251,.int .i64 t252,.slice Ao19 t253.length co19] 24 (0,0)) (by (with_reducible repeat (first|refine blk_drewN ?_ _|refine blk_drew ?_|refine blk_alloc ?_ _));exact BK257.out) hb)
          have n12_:=A_ (blk_below (g:=gb266) (o:=.cells #[.int .i64 t260,.int .i64 t261,.slice Ao25 t262.length co25] 24 (0,0)) (by (with_reducible repeat (first|refine blk_drewN ?_ _|refine blk_drew ?_|refine blk_alloc ?_ _));exact BK266.out) hb)
          have n13_:=A_ (blk_below (g:=gb273) (o:=.cells #[.int .i64 t267,.int .i64 t268,.slice Ao33 t269.length co33] 24 (0,0)) (by (with_reducible repeat (first|refine blk_drewN ?_ _|refine blk_drew ?_|refine blk_alloc ?_ _));exact BK273.out) hb)
          have n14_:=A_ (blk_below (g:=gb280) (o:=.cells #[.int .i64 t274,.int .i64 t275,.slice Ao42 t276.length co42] 24 (0,0)) (by (with_reducible repeat (first|refine blk_drewN ?_ _|refine blk_drew ?_|refine blk_alloc ?_ _));exact BK280.out) hb)
          have n15_:=A_ (blk_below (g:=gb287) (o:=.cells #[.int .i64 t281,.int .i64 t282,.slice Ao52 t283.length co52] 24 (0,0)) (by (with_reducible repeat (first|refine blk_drewN ?_ _|refine blk_drew ?_|refine blk_alloc ?_ _));exact BK287.out) hb)
          have n16_:=A_ (blk_below (g:=gb289) (o:=.cells #[.int .i64 (wrap64 (t267 + (wrap64 (t252 * (wrap64 (a3)))))),.int .i64 t268,.slice Ao33 t269.length co33] 24 (0,0)) (by (with_reducible repeat (first|refine blk_drewN ?_ _|refine blk_drew ?_|refine blk_alloc ?_ _));exact BK289.out) hb)
          have n17_:=A_ (blk_below (g:=gb296) (o:=.cells #[.int .i64 t290,.int .i64 t291,.slice Ao101 t292.length co101] 24 (0,0)) (by (with_reducible repeat (first|refine blk_drewN ?_ _|refine blk_drew ?_|refine blk_alloc ?_ _));exact BK296.out) hb)
          have n18_:=A_ (blk_below (g:=gb303) (o:=.cells #[.int .i64 t297,.int .i64 t298,.slice Ao137 t299.length co137] 24 (0,0)) (by (with_reducible repeat (first|refine blk_drewN ?_ _|refine blk_drew ?_|refine blk_alloc ?_ _));exact BK303.out) hb)
          have n19_:=A_ (below_step (by repeat (first|(with_reducible first|exact HB.out|apply ba|apply bb|apply bc|refine below_set ?_ GE257.out|refine below_set ?_ GE266.out|refine below_set ?_ GE273.out|refine below_set ?_ GE280.out|refine below_set ?_ GE287.out|refine below_set ?_ GE289.out|refine below_set ?_ GE296.out|refine below_set ?_ GE303.out)|exact HB.out)) hb)
          clear HO_258002
          clear HO_267002
          clear HO_274002
          clear HO_281002
          clear HO_288002
          clear HO_290002
          clear HO_297002
          clear HO301
          clear HO307
          clear HO310
          clear BK257
          clear BK266
          clear BK273
          clear BK280
          clear BK287
          clear BK289
          clear BK296
          clear BK303
          clear HB
          have HO_258002:=n0_
          have HO_267002:=n1_
          have HO_274002:=n2_
          have HO_281002:=n3_
          have HO_288002:=n4_
          have HO_290002:=n5_
          have HO_297002:=n6_
          have HO301:=n7_
          have HO307:=n8_
          have HO310:=n9_
          have HO313:=n10_
          have BK257:=n11_
          have BK266:=n12_
          have BK273:=n13_
          have BK280:=n14_
          have BK287:=n15_
          have BK289:=n16_
          have BK296:=n17_
          have BK303:=n18_
          have HB:=n19_
          clear n0_ n1_ n2_ n3_ n4_ n5_ n6_ n7_ n8_ n9_ n10_ n11_ n12_ n13_ n14_ n15_ n16_ n17_ n18_ n19_
          (try clear hb)
          (try clear hb2)
          (try clear hk)
          (try clear hi)
          (try clear ho0)
          obtain ⟨Ao146,co146,eo146⟩:=Kd.R_slice HO313.out
          (first|subst eo146|(injection eo146 with f1_ f2_ f3_;have f4_:=f1_.symm;have f5_:=f3_.symm;clear f1_ f2_ f3_;subst f4_;subst f5_))
          refine hK.out _ _ ⟨(blk_cell BK303.out 0).trans rfl,(blk_cell BK303.out 1).trans rfl,(blk_cell BK303.out 2).trans rfl,(blk_cell BK289.out 0).trans rfl,(blk_cell BK289.out 1).trans rfl,(blk_cell BK289.out 2).trans rfl,(blk_cell BK296.out 0).trans rfl,(blk_cell BK296.out 1).trans rfl,(blk_cell BK296.out 2).trans rfl,(blk_cell BK266.out 0).trans rfl,(blk_cell BK266.out 1).trans rfl,(blk_cell BK266.out 2).trans rfl⟩ (fun hHeld=>?_)
          clear hK K
          refine norm_ (a':=?_) ?_ ?_
          rotate_left
          ·
           show Act.put _ (some 146) _ = _
           simp only [Act.put,sa,sb,sc,i64_w,i32_w]
           rfl
          refine pure_ (i:=16) (N:=some 147) (v:=?_) (a':=?_) #[true,true,true,true,true,true,true,true,true,true,true,true,true,true,true,true,true,false,false,false,false,false,false,false] rfl rfl (any_of HT_.out (by kernel_rfl)) (fun _ _ _ h=>h) (Or.inl ⟨by rfl,?_⟩) ?_ ?_
          rotate_left
          ·
           intro w'
           go_simp
           with_reducible rfl
          rotate_left
          ·
           simp only [Act.put,sa,sb,sc,i64_w,i32_w]
           rfl
          refine pure_ (i:=17) (N:=some 148) (v:=?_) (a':=?_) #[true,true,true,true,true,true,true,true,true,true,true,true,true,true,true,true,true,true,false,false,false,false,false,false] rfl rfl (any_of HT_.out (by kernel_rfl)) (fun _ _ _ h=>h) (Or.inl ⟨by rfl,?_⟩) ?_ ?_
          rotate_left
          ·
           intro w'
           go_simp
           with_reducible rfl
          rotate_left
          ·
           simp only [Act.put,sa,sb,sc,i64_w,i32_w]
           rfl
          refine pure_ (i:=18) (N:=some 149) (v:=?_) (a':=?_) #[true,true,true,true,true,true,true,true,true,true,true,true,true,true,true,true,true,true,true,false,false,false,false,false] rfl rfl (any_of HT_.out (by kernel_rfl)) (fun _ _ _ h=>h) (Or.inl ⟨by rfl,?_⟩) ?_ ?_
          rotate_left
          ·
           intro w'
           go_simp
           with_reducible rfl
          rotate_left
          ·
           simp only [Act.put,sa,sb,sc,i64_w,i32_w]
           rfl
          refine pure_ (i:=19) (N:=some 150) (v:=?_) (a':=?_) #[true,true,true,true,true,true,true,true,true,true,true,true,true,true,true,true,true,true,true,true,false,false,false,false] rfl rfl (any_of HT_.out (by kernel_rfl)) (fun _ _ _ h=>h) (Or.inl ⟨by rfl,?_⟩) ?_ ?_
          rotate_left
          ·
           intro w'
           go_simp
           with_reducible rfl
          rotate_left
          ·
           simp only [Act.put,sa,sb,sc,i64_w,i32_w]
           rfl
          refine pure_ (i:=20) (N:=some 151) (v:=?_) (a':=?_) #[true,true,true,true,true,true,true,true,true,true,true,true,true,true,true,true,true,true,true,true,true,false,false,false] rfl rfl (any_of HT_.out (by kernel_rfl)) (fun _ _ _ h=>h) (Or.inl ⟨by rfl,?_⟩) ?_ ?_
          rotate_left
          ·
           intro w'
           go_simp
           with_reducible rfl
          rotate_left
          ·
           simp only [Act.put,sa,sb,sc,i64_w,i32_w]
           rfl
          refine one_ (i:=21) (N:=some 152) #[true,true,true,true,true,true,true,true,true,true,true,true,true,true,true,true,true,true,true,true,true,true,false,false] rfl rfl (one_of HT_.out (by kernel_rfl)) (by decide) (fun K hK=>?_)
          refine goes_ Try.func15 (by kernel_rfl) rfl #[] (by rfl) rfl rfl (by (try simp only [List.map_toArray,List.map_cons,List.map_nil]);first|done|rfl|(simp only [List.length_drop,List.length_take];rfl)) ?_
          with_reducible refine (shapesearchlaw09_awake.calls kj71  t314 _ A119.out).mono ?_
          rintro e w147 ⟨rfl,hb⟩
          refine ⟨_,rfl,?_⟩
          have n0_:=A_ (rw_ (by (with_reducible repeat (first|apply ra|apply rb|apply rc));exact HO_258002.out) hb)
          have n1_:=A_ (rw_ (by (with_reducible repeat (first|apply ra|apply rb|apply rc));exact HO_267002.out) hb)
          have n2_:=A_ (rw_ (by (with_reducible repeat (first|apply ra|apply rb|apply rc));exact HO_274002.out) hb)
          have n3_:=A_ (rw_ (by (with_reducible repeat (first|apply ra|apply rb|apply rc));exact HO_281002.out) hb)
          have n4_:=A_ (rw_ (by (with_reducible repeat (first|apply ra|apply rb|apply rc));exact HO_288002.out) hb)
          have n5_:=A_ (rw_ (by (with_reducible repeat (first|apply ra|apply rb|apply rc));exact HO_290002.out) hb)
          have n6_:=A_ (rw_ (by (with_reducible repeat (first|apply ra|apply rb|apply rc));exact HO_297002.out) hb)
          have n7_:=A_ (rw_ (by (with_reducible repeat (first|apply ra|apply rb|apply rc));exact HO301.out) hb)
          have n8_:=A_ (rw_ (by (with_reducible repeat (first|apply ra|apply rb|apply rc));exact HO307.out) hb)
          have n9_:=A_ (rw_ (by (with_reducible repeat (first|apply ra|apply rb|apply rc));exact HO310.out) hb)
          have n10_:=A_ (rw_ (by (with_reducible repeat (first|apply ra|apply rb|apply rc));exact HO313.out) hb)
          have n11_:=A_ (blk_below (g:=gb257) (o:=.cells #[.int .i64 t251,.int .i64 t252,.slice Ao19 t253.length co19] 24 (0,0)) (by (with_reducible repeat (first|refine blk_drewN ?_ _|refine blk_drew ?_|refine blk_alloc ?_ _));exact BK257.out) hb)
          have n12_:=A_ (blk_below (g:=gb266) (o:=.cells #[.int .i64 t260,.int .i64 t261,.slice Ao25 t262.length co25] 24 (0,0)) (by (with_reducible repeat (first|refine blk_drewN ?_ _|refine blk_drew ?_|refine blk_alloc ?_ _));exact BK266.out) hb)
          have n13_:=A_ (blk_below (g:=gb273) (o:=.cells #[.int .i64 t267,.int .i64 t268,.slice Ao33 t269.length co33] 24 (0,0)) (by (with_reducible repeat (first|refine blk_drewN ?_ _|refine blk_drew ?_|refine blk_alloc ?_ _));exact BK273.out) hb)
          have n14_:=A_ (blk_below (g:=gb280) (o:=.cells #[.int .i64 t274,.int .i64 t275,.slice Ao42 t276.length co42] 24 (0,0)) (by (with_reducible repeat (first|refine blk_drewN ?_ _|refine blk_drew ?_|refine blk_alloc ?_ _));exact BK280.out) hb)
          have n15_:=A_ (blk_below (g:=gb287) (o:=.cells #[.int .i64 t281,.int .i64 t282,.slice Ao52 t283.length co52] 24 (0,0)) (by (with_reducible repeat (first|refine blk_drewN ?_ _|refine blk_drew ?_|refine blk_alloc ?_ _));exact BK287.out) hb)
          have n16_:=A_ (blk_below (g:=gb289) (o:=.cells #[.int .i64 (wrap64 (t267 + (wrap64 (t252 * (wrap64 (a3)))))),.int .i64 t268,.slice Ao33 t269.length co33] 24 (0,0)) (by (with_reducible repeat (first|refine blk_drewN ?_ _|refine blk_drew ?_|refine blk_alloc ?_ _));exact BK289.out) hb)
          have n17_:=A_ (blk_below (g:=gb296) (o:=.cells #[.int .i64 t290,.int .i64 t291,.slice Ao101 t292.length co101] 24 (0,0)) (by (with_reducible repeat (first|refine blk_drewN ?_ _|refine blk_drew ?_|refine blk_alloc ?_ _));exact BK296.out) hb)
          have n18_:=A_ (blk_below (g:=gb303) (o:=.cells #[.int .i64 t297,.int .i64 t298,.slice Ao137 t299.length co137] 24 (0,0)) (by (with_reducible repeat (first|refine blk_drewN ?_ _|refine blk_drew ?_|refine blk_alloc ?_ _));exact BK303.out) hb)
          have n19_:=A_ (below_step (by repeat (first|(with_reducible first|exact HB.out|apply ba|apply bb|apply bc|refine below_set ?_ GE257.out|refine below_set ?_ GE266.out|refine below_set ?_ GE273.out|refine below_set ?_ GE280.out|refine below_set ?_ GE287.out|refine below_set ?_ GE289.out|refine below_set ?_ GE296.out|refine below_set ?_ GE303.out)|exact HB.out)) hb)
          clear HO_258002
          clear HO_267002
          clear HO_274002
          clear HO_281002
          clear HO_288002
          clear HO_290002
          clear HO_297002
          clear HO301
          clear HO307
          clear HO310
          clear HO313
          clear BK257
          clear BK266
          clear BK273
          clear BK280
          clear BK287
          clear BK289
          clear BK296
          clear BK303
          clear HB
          have HO_258002:=n0_
          have HO_267002:=n1_
          have HO_274002:=n2_
          have HO_281002:=n3_
          have HO_288002:=n4_
          have HO_290002:=n5_
          have HO_297002:=n6_
          have HO301:=n7_
          have HO307:=n8_
          have HO310:=n9_
          have HO313:=n10_
          have BK257:=n11_
          have BK266:=n12_
          have BK273:=n13_
          have BK280:=n14_
          have BK287:=n15_
          have BK289:=n16_
          have BK296:=n17_
          have BK303:=n18_
          have HB:=n19_
          clear n0_ n1_ n2_ n3_ n4_ n5_ n6_ n7_ n8_ n9_ n10_ n11_ n12_ n13_ n14_ n15_ n16_ n17_ n18_ n19_
          (try clear hb)
          (try clear hb2)
          (try clear hk)
          (try clear hi)
          refine hK.out _ _ ⟨(blk_cell BK303.out 0).trans rfl,(blk_cell BK303.out 1).trans rfl,(blk_cell BK303.out 2).trans rfl,(blk_cell BK289.out 0).trans rfl,(blk_cell BK289.out 1).trans rfl,(blk_cell BK289.out 2).trans rfl,(blk_cell BK296.out 0).trans rfl,(blk_cell BK296.out 1).trans rfl,(blk_cell BK296.out 2).trans rfl,(blk_cell BK266.out 0).trans rfl,(blk_cell BK266.out 1).trans rfl,(blk_cell BK266.out 2).trans rfl⟩ (fun hHeld=>?_)
          clear hK K
          refine norm_ (a':=?_) ?_ ?_
          rotate_left
          ·
           show Act.put _ (some 152) _ = _
           simp only [Act.put,sa,sb,sc,i64_w,i32_w]
           rfl
          refine pure_ (i:=22) (N:=some 153) (v:=?_) (a':=?_) #[true,true,true,true,true,true,true,true,true,true,true,true,true,true,true,true,true,true,true,true,true,true,true,false] rfl rfl (any_of HT_.out (by kernel_rfl)) (fun _ _ _ h=>h) (Or.inl ⟨by rfl,?_⟩) ?_ ?_
          rotate_left
          ·
           intro w'
           go_simp
           with_reducible rfl
          rotate_left
          ·
           simp only [Act.put,sa,sb,sc,i64_w,i32_w]
           rfl
          refine pure_ (i:=23) (N:=some 8) (v:=?_) (a':=?_) #[true,true,true,true,true,true,true,true,true,true,true,true,true,true,true,true,true,true,true,true,true,true,true,true] rfl rfl (any_of HT_.out (by kernel_rfl)) (fun _ _ _ h=>h) (Or.inl ⟨by rfl,?_⟩) ?_ ?_
          rotate_left
          ·
           intro w'
           go_simp
           with_reducible rfl
          rotate_left
          ·
           simp only [Act.put,sa,sb,sc,i64_w,i32_w]
           rfl
          refine done_ (done_of HT_.out (by kernel_rfl)) ?_
          try go_wp2
          go_ret
          exact ⟨by first|rfl|(simp [errW_none,errW_some] <;> rfl)|(simp [*,errW_none,errW_some] <;> rfl),by repeat (first|(with_reducible first|exact HB.out|apply ba|apply bb|apply bc|refine below_set ?_ GE257.out|refine below_set ?_ GE266.out|refine below_set ?_ GE273.out|refine below_set ?_ GE280.out|refine below_set ?_ GE287.out|refine below_set ?_ GE289.out|refine below_set ?_ GE296.out|refine below_set ?_ GE303.out)|exact HB.out)⟩
         ·
          rw [if_neg c118] at H
          have c118b0 : ((t305.length : Int) == (wrap64 ((t308.length : Int) + (t311.length : Int)))) = false:=beq_eq_false_iff_ne.mpr c118
          have c118b1 : ((t305.length : Int) != (wrap64 ((t308.length : Int) + (t311.length : Int)))) = true:=bne_iff_ne.mpr c118
          exact absurd ((Option.some.inj H).trans HT_.out) (by decide)
        ·
         replace c114:=Bool.eq_false_iff.mpr c114
         subst c114
         have H1 : (some false) = some r:=by rw [if_neg (show ¬ (false = true) by decide)] at H;exact H
         clear H
         have H:=H1
         clear H1
         exact absurd ((Option.some.inj H).trans HT_.out) (by decide)
       ·
        rw [if_neg c112] at H
        have c112b0 : (t302 == 0) = false:=beq_eq_false_iff_ne.mpr c112
        have c112b1 : (t302 != 0) = true:=bne_iff_ne.mpr c112
        exact absurd ((Option.some.inj H).trans HT_.out) (by decide)

/-- THE ONE PURE STATEMENT of shapesearchlaw09_SeriesParts: yours. -/
def shapesearchlaw09_SeriesParts.Pure : Prop:=∀ (l0 : List Int) (a1 : Int) (a2 : Int) (a3 : Int),l0.length ≤ maxLen → l0.length * 8 ≤ 140737488351232 → (∀ x ∈ l0,(Lit.int .i64 x).wf = true) → (Lit.int .u8 a1).wf = true → (Lit.int .u8 a2).wf = true → (Lit.int .u8 a3).wf = true → ∃ k,shapesearchlaw09_SeriesParts.f k l0 a1 a2 a3 = some true
theorem shapesearchlaw09_SeriesParts.walk (P : shapesearchlaw09_SeriesParts.Pure) (a0 : Option Addr) (len0 cap0 : Nat) (z0 : List Int) (a1 : Int) (a2 : Int) (a3 : Int) (w : World) (w0 : (a0 = none∧len0 = 0∧cap0 = 0∧z0 = []) ∨ ∃ x,a0 = some x∧len0 ≤ cap0∧cap0 ≤ maxLen∧z0.length = cap0∧(∀ i,i < z0.length → w.cell? (x.add i) = some (.int .i64 (z0.getD i 0)))∧∀ n ∈ z0,(Lit.int .i64 n).wf = true) (y0 : len0 * 8 ≤ 140737488351232) (w1 : (Lit.int .u8 a1).wf = true) (w2 : (Lit.int .u8 a2).wf = true) (w3 : (Lit.int .u8 a3).wf = true) :
  Calls Try.prog 6 #[.slice a0 len0 cap0,.int .u8 a1,.int .u8 a2,.int .u8 a3] w fun e w'=>e = .returned (.bool true)∧Below w.heap.size w w':=by
 obtain ⟨l0,rfl,hr0,hm0,hw0,hc0⟩:=ReadsInt.ofRowC w0
 obtain ⟨k,h⟩:=P l0 a1 a2 a3 hm0 y0 hw0 w1 w2 w3
 refine (shapesearchlaw09_SeriesParts.calls k _ _ l0 a1 a2 a3 true w (Kd.C_of_reads (d:=(0 : Int)) (h1:=fun _=>rfl) hr0) hc0 h rfl).mono ?_
 rintro e w' ⟨rfl,hd⟩
 exact ⟨rfl,hd⟩

end Go.Proofs.Ytklghejinlhjpaa.PSeriesParts
