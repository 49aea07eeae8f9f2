/- This file proves, function by function, what the Go functions that one law uses compute; most of it was printed by a program (wip/tools of this session, over the kit's print). -/
import Derived.Test.YtodipcfbgnljeaaPChannelsPathsx0
import Derived.Test.YtodipcfbgnljeaaPChannelsPathsx1
import Derived.Test.YtodipcfbgnljeaaPChannelsPathsx3
import Derived.Test.YtodipcfbgnljeaaPChannelsPathsx4
import Derived.Test.YtodipcfbgnljeaaPChannelsPathsx7
import Derived.Test.YtodipcfbgnljeaaPChannelsPathsx8
namespace Go.Proofs.Ytodipcfbgnljeaa.PChannelsPaths
open Go.RowKit Go.Proofs.YtodipcfbgnljeaaW.PrintWords Go.Proofs.YtodipcfbgnljeaaW.PrintLast Go.Proofs.YtodipcfbgnljeaaW.PrintMore
attribute [local go_sem] max2_int min2_int max_two min_two max_three min_three max_four min_four   -- for this text's walks alone
set_option linter.unusedVariables false
set_option linter.unusedSimpArgs false

/-! ### shapesearchlaw16_ChannelsPaths: function 3 -/
def shapesearchlaw16_ChannelsPaths.j0 : Nat → List (List Int) → List (List Int) → Int → Bool → Option (Bool)
 | 0,_,_,_,_=>none
 | k + 1,x3,x4,x8,x96=>if x96 = true then (some false) else (if 0 < (x3.length : Int) then (if 0 < (x4.length : Int) then (if ((rd_L1 x3 0).length : Int) = ((rd_L1 x4 0).length : Int) then ((channels_Euclid.f k x3 x4).bind fun bt374=>(if bt374.2 = 0 then (if x8 ≤ bt374.1 then ((shapesearchlaw16_awake.f k).bind fun t376=>(some t376)) else (some false)) else (some false))) else ((shapesearchlaw16_awake.f k).bind fun t377=>(some t377))) else (none)) else (none))
def shapesearchlaw16_ChannelsPaths.f (k : Nat) (l0 : List Int) : Option (Bool):=(shapesearchkeep_New.f l0).bind fun bt333=>((shapesearchlaw16_bundles.f k bt333.1 bt333.2).bind fun bt336=>((channels_Apart.f k bt336.1 bt336.2.1 bt336.2.2.1).bind fun bt344=>((channels_Together.f k bt336.1 bt336.2.1 bt336.2.2.1).bind fun bt346=>(if 1 ≤ (bt336.1.length : Int) then (if 1 ≤ (bt336.2.1.length : Int) then ((channels_Apart.f k (bt336.1.take 1) (bt336.2.1.take 1) bt336.2.2.1).bind fun bt356=>((channels_Together.f k (bt336.1.take 1) (bt336.2.1.take 1) bt336.2.2.1).bind fun bt366=>(if 0 < (bt336.1.length : Int) then (if 0 < (bt336.2.1.length : Int) then ((shapesearchref14_Distance.f k (rd_L1 bt336.1 0) (rd_L1 bt336.2.1 0) bt336.2.2.1).bind fun bt370=>(if bt344.2 = 0 then (if bt346.2 = 0 then (if bt356.2 = 0 then (if bt366.2 = 0 then (if bt344.1 > bt346.1 then (shapesearchlaw16_ChannelsPaths.j0 k bt336.1 bt336.2.1 bt346.1 true) else (if bt356.1 = bt370.1 then (shapesearchlaw16_ChannelsPaths.j0 k bt336.1 bt336.2.1 bt346.1 (bt366.1 != bt370.1)) else (shapesearchlaw16_ChannelsPaths.j0 k bt336.1 bt336.2.1 bt346.1 true))) else (shapesearchlaw16_ChannelsPaths.j0 k bt336.1 bt336.2.1 bt346.1 true)) else (shapesearchlaw16_ChannelsPaths.j0 k bt336.1 bt336.2.1 bt346.1 true)) else (shapesearchlaw16_ChannelsPaths.j0 k bt336.1 bt336.2.1 bt346.1 true)) else (shapesearchlaw16_ChannelsPaths.j0 k bt336.1 bt336.2.1 bt346.1 true))) else (none)) else (none)))) else (none)) else (none)))))
theorem shapesearchlaw16_ChannelsPaths.mono_l : ∀ k,(∀ y0 y1 y2 y3,LeO (shapesearchlaw16_ChannelsPaths.j0 k y0 y1 y2 y3) (shapesearchlaw16_ChannelsPaths.j0 (k + 1) y0 y1 y2 y3))
 | 0=>fun _ _ _ _ r h=>by simp [shapesearchlaw16_ChannelsPaths.j0] at h
 | k + 1=>by
  have ih0:=shapesearchlaw16_ChannelsPaths.mono_l k
  ·
   intro y0 y1 y2 y3
   unfold shapesearchlaw16_ChannelsPaths.j0
   repeat' first
   | (with_reducible exact ih0 _ _ _ _)
   | (with_reducible exact channels_Apart.mono _ _ _ _)
   | (with_reducible exact channels_Euclid.mono _ _ _)
   | (with_reducible exact channels_Together.mono _ _ _ _)
   | (with_reducible exact shapesearchlaw16_awake.mono _)
   | (with_reducible exact shapesearchlaw16_bundles.mono _ _ _)
   | (with_reducible exact shapesearchref14_Distance.mono _ _ _ _)
   | (with_reducible exact LeO.refl _)
   | (with_reducible exact LeO.none _)
   | (with_reducible refine LeO.ite ?_ ?_)
   | (with_reducible refine LeO.bind ?_ (fun _=>?_))
   | exact ih0 _ _ _ _
   | exact channels_Apart.mono _ _ _ _
   | exact channels_Euclid.mono _ _ _
   | exact channels_Together.mono _ _ _ _
   | exact shapesearchlaw16_awake.mono _
   | exact shapesearchlaw16_bundles.mono _ _ _
   | exact shapesearchref14_Distance.mono _ _ _ _
   | exact LeO.none _
   | refine LeO.ite ?_ ?_
   | refine LeO.bind ?_ (fun _=>?_)
theorem shapesearchlaw16_ChannelsPaths.mono : ∀ a0 k,LeO (shapesearchlaw16_ChannelsPaths.f k a0) (shapesearchlaw16_ChannelsPaths.f (k + 1) a0):=by
 intro a0 k
 have ih0:=shapesearchlaw16_ChannelsPaths.mono_l k
 unfold shapesearchlaw16_ChannelsPaths.f
 repeat' first
   | (with_reducible exact ih0 _ _ _ _)
   | (with_reducible exact channels_Apart.mono _ _ _ _)
   | (with_reducible exact channels_Euclid.mono _ _ _)
   | (with_reducible exact channels_Together.mono _ _ _ _)
   | (with_reducible exact shapesearchlaw16_awake.mono _)
   | (with_reducible exact shapesearchlaw16_bundles.mono _ _ _)
   | (with_reducible exact shapesearchref14_Distance.mono _ _ _ _)
   | (with_reducible exact LeO.refl _)
   | (with_reducible exact LeO.none _)
   | (with_reducible refine LeO.ite ?_ ?_)
   | (with_reducible refine LeO.bind ?_ (fun _=>?_))
   | exact ih0 _ _ _ _
   | exact channels_Apart.mono _ _ _ _
   | exact channels_Euclid.mono _ _ _
   | exact channels_Together.mono _ _ _ _
   | exact shapesearchlaw16_awake.mono _
   | exact shapesearchlaw16_bundles.mono _ _ _
   | exact shapesearchref14_Distance.mono _ _ _ _
   | exact LeO.none _
   | refine LeO.ite ?_ ?_
   | refine LeO.bind ?_ (fun _=>?_)
def shapesearchlaw16_ChannelsPaths.T4 : Bool × List (List Nat × List Nat):=(true,[([],[]),([0],[0]),([],[]),([2],[2]),([],[]),([1,3,4],[1,3,4]),([5],[5]),([6],[6]),([6],[6]),([7,5,0,1,2,3,4,5,6,7],[7]),([8,9,0,1,2,3,4,5,6,7,8,9],[8])])
def shapesearchlaw16_ChannelsPaths.B4 : List Nat:=[0,1,0,4,0,31,63,127,127,255,1023]
theorem shapesearchlaw16_ChannelsPaths.tab4 : rtab .any (opsOf Try.f3 4) = shapesearchlaw16_ChannelsPaths.T4:=by kernel_rfl
theorem shapesearchlaw16_ChannelsPaths.bits4 : waitsOk shapesearchlaw16_ChannelsPaths.T4.2 shapesearchlaw16_ChannelsPaths.B4 = true:=by kernel_rfl
def shapesearchlaw16_ChannelsPaths.T5 : Bool × List (List Nat × List Nat):=(true,[([],[]),([0],[0]),([],[]),([2],[2]),([],[]),([1,3,4],[1,3,4]),([5],[5]),([6],[6]),([6],[6]),([7,5,0,1,2,3,4,5,6,7],[7]),([8,9,0,1,2,3,4,5,6,7,8,9],[8])])
def shapesearchlaw16_ChannelsPaths.B5 : List Nat:=[0,1,0,4,0,31,63,127,127,255,1023]
theorem shapesearchlaw16_ChannelsPaths.tab5 : rtab .any (opsOf Try.f3 5) = shapesearchlaw16_ChannelsPaths.T5:=by kernel_rfl
theorem shapesearchlaw16_ChannelsPaths.bits5 : waitsOk shapesearchlaw16_ChannelsPaths.T5.2 shapesearchlaw16_ChannelsPaths.B5 = true:=by kernel_rfl
def shapesearchlaw16_ChannelsPaths.T6 : Bool × List (List Nat × List Nat):=(true,[([],[]),([0],[0]),([1],[1]),([],[]),([3],[3]),([4],[4]),([],[]),([2,5,6],[2,5,6]),([7],[7]),([8],[8]),([8],[8]),([9,7,0,1,2,3,4,5,6,7,8,9],[9]),([10,11,0,1,2,3,4,5,6,7,8,9,10,11],[10])])
def shapesearchlaw16_ChannelsPaths.B6 : List Nat:=[0,1,3,0,8,24,0,127,255,511,511,1023,4095]
theorem shapesearchlaw16_ChannelsPaths.tab6 : rtab .any (opsOf Try.f3 6) = shapesearchlaw16_ChannelsPaths.T6:=by kernel_rfl
theorem shapesearchlaw16_ChannelsPaths.bits6 : waitsOk shapesearchlaw16_ChannelsPaths.T6.2 shapesearchlaw16_ChannelsPaths.B6 = true:=by kernel_rfl
def shapesearchlaw16_ChannelsPaths.T9 : Bool × List (List Nat × List Nat):=(true,[([],[]),([0],[0]),([1],[1]),([2],[2]),([],[]),([4],[4]),([5],[5]),([6],[6]),([3,7],[3,7])])
def shapesearchlaw16_ChannelsPaths.B9 : List Nat:=[0,1,3,7,0,16,48,112,255]
theorem shapesearchlaw16_ChannelsPaths.tab9 : rtab .any (opsOf Try.f3 9) = shapesearchlaw16_ChannelsPaths.T9:=by kernel_rfl
theorem shapesearchlaw16_ChannelsPaths.bits9 : waitsOk shapesearchlaw16_ChannelsPaths.T9.2 shapesearchlaw16_ChannelsPaths.B9 = true:=by kernel_rfl
set_option maxHeartbeats 8000000 in
set_option maxRecDepth 100000 in
theorem shapesearchlaw16_ChannelsPaths.calls (k : Nat) (A0 : Option Addr) (c0 : Nat) (l0 : List Int) (r : Bool) (w : World) (hr0 : Kd.C (Kd.int .i64) w A0 l0.length l0) (hc0 : l0.length ≤ c0) (h : shapesearchlaw16_ChannelsPaths.f k l0 = some r) (hT_ : r = true) :
  Calls Try.prog 3 #[.slice A0 l0.length c0] w fun e w'=>e = .returned (.bool r)∧Below w.heap.size w w':=by
 have HTR_:=A_ hT_
 clear hT_
 have HR0:=A_ hr0
 have HC0:=A_ hc0
 clear hr0 hc0
 have HB:=A_ (Below.refl w.heap.size w)
 have H : ((shapesearchkeep_New.f l0).bind fun bt333=>((shapesearchlaw16_bundles.f k bt333.1 bt333.2).bind fun bt336=>((channels_Apart.f k bt336.1 bt336.2.1 bt336.2.2.1).bind fun bt344=>((channels_Together.f k bt336.1 bt336.2.1 bt336.2.2.1).bind fun bt346=>(if 1 ≤ (bt336.1.length : Int) then (if 1 ≤ (bt336.2.1.length : Int) then ((channels_Apart.f k (bt336.1.take 1) (bt336.2.1.take 1) bt336.2.2.1).bind fun bt356=>((channels_Together.f k (bt336.1.take 1) (bt336.2.1.take 1) bt336.2.2.1).bind fun bt366=>(if 0 < (bt336.1.length : Int) then (if 0 < (bt336.2.1.length : Int) then ((shapesearchref14_Distance.f k (rd_L1 bt336.1 0) (rd_L1 bt336.2.1 0) bt336.2.2.1).bind fun bt370=>(if bt344.2 = 0 then (if bt346.2 = 0 then (if bt356.2 = 0 then (if bt366.2 = 0 then (if bt344.1 > bt346.1 then (shapesearchlaw16_ChannelsPaths.j0 k bt336.1 bt336.2.1 bt346.1 true) else (if bt356.1 = bt370.1 then (shapesearchlaw16_ChannelsPaths.j0 k bt336.1 bt336.2.1 bt346.1 (bt366.1 != bt370.1)) else (shapesearchlaw16_ChannelsPaths.j0 k bt336.1 bt336.2.1 bt346.1 true))) else (shapesearchlaw16_ChannelsPaths.j0 k bt336.1 bt336.2.1 bt346.1 true)) else (shapesearchlaw16_ChannelsPaths.j0 k bt336.1 bt336.2.1 bt346.1 true)) else (shapesearchlaw16_ChannelsPaths.j0 k bt336.1 bt336.2.1 bt346.1 true)) else (shapesearchlaw16_ChannelsPaths.j0 k bt336.1 bt336.2.1 bt346.1 true))) else (none)) else (none)))) else (none)) else (none)))))) = some r:=h
 clear h
 replace H:=Option.bind_eq_some_iff.mp H
 obtain ⟨⟨t333,t334⟩,A20,H⟩:=H
 replace H : ((shapesearchlaw16_bundles.f k t333 t334).bind fun bt336=>((channels_Apart.f k bt336.1 bt336.2.1 bt336.2.2.1).bind fun bt344=>((channels_Together.f k bt336.1 bt336.2.1 bt336.2.2.1).bind fun bt346=>(if 1 ≤ (bt336.1.length : Int) then (if 1 ≤ (bt336.2.1.length : Int) then ((channels_Apart.f k (bt336.1.take 1) (bt336.2.1.take 1) bt336.2.2.1).bind fun bt356=>((channels_Together.f k (bt336.1.take 1) (bt336.2.1.take 1) bt336.2.2.1).bind fun bt366=>(if 0 < (bt336.1.length : Int) then (if 0 < (bt336.2.1.length : Int) then ((shapesearchref14_Distance.f k (rd_L1 bt336.1 0) (rd_L1 bt336.2.1 0) bt336.2.2.1).bind fun bt370=>(if bt344.2 = 0 then (if bt346.2 = 0 then (if bt356.2 = 0 then (if bt366.2 = 0 then (if bt344.1 > bt346.1 then (shapesearchlaw16_ChannelsPaths.j0 k bt336.1 bt336.2.1 bt346.1 true) else (if bt356.1 = bt370.1 then (shapesearchlaw16_ChannelsPaths.j0 k bt336.1 bt336.2.1 bt346.1 (bt366.1 != bt370.1)) else (shapesearchlaw16_ChannelsPaths.j0 k bt336.1 bt336.2.1 bt346.1 true))) else (shapesearchlaw16_ChannelsPaths.j0 k bt336.1 bt336.2.1 bt346.1 true)) else (shapesearchlaw16_ChannelsPaths.j0 k bt336.1 bt336.2.1 bt346.1 true)) else (shapesearchlaw16_ChannelsPaths.j0 k bt336.1 bt336.2.1 bt346.1 true)) else (shapesearchlaw16_ChannelsPaths.j0 k bt336.1 bt336.2.1 bt346.1 true))) else (none)) else (none)))) else (none)) else (none))))) = some r:=H
 have A2:=A_ A20
 clear A20
 replace H:=Option.bind_eq_some_iff.mp H
 obtain ⟨⟨t336,t339,t342,t343⟩,A30,H⟩:=H
 replace H : ((channels_Apart.f k t336 t339 t342).bind fun bt344=>((channels_Together.f k t336 t339 t342).bind fun bt346=>(if 1 ≤ (t336.length : Int) then (if 1 ≤ (t339.length : Int) then ((channels_Apart.f k (t336.take 1) (t339.take 1) t342).bind fun bt356=>((channels_Together.f k (t336.take 1) (t339.take 1) t342).bind fun bt366=>(if 0 < (t336.length : Int) then (if 0 < (t339.length : Int) then ((shapesearchref14_Distance.f k (rd_L1 t336 0) (rd_L1 t339 0) t342).bind fun bt370=>(if bt344.2 = 0 then (if bt346.2 = 0 then (if bt356.2 = 0 then (if bt366.2 = 0 then (if bt344.1 > bt346.1 then (shapesearchlaw16_ChannelsPaths.j0 k t336 t339 bt346.1 true) else (if bt356.1 = bt370.1 then (shapesearchlaw16_ChannelsPaths.j0 k t336 t339 bt346.1 (bt366.1 != bt370.1)) else (shapesearchlaw16_ChannelsPaths.j0 k t336 t339 bt346.1 true))) else (shapesearchlaw16_ChannelsPaths.j0 k t336 t339 bt346.1 true)) else (shapesearchlaw16_ChannelsPaths.j0 k t336 t339 bt346.1 true)) else (shapesearchlaw16_ChannelsPaths.j0 k t336 t339 bt346.1 true)) else (shapesearchlaw16_ChannelsPaths.j0 k t336 t339 bt346.1 true))) else (none)) else (none)))) else (none)) else (none)))) = some r:=H
 have A3:=A_ A30
 clear A30
 replace H:=Option.bind_eq_some_iff.mp H
 obtain ⟨⟨t344,t345⟩,A40,H⟩:=H
 replace H : ((channels_Together.f k t336 t339 t342).bind fun bt346=>(if 1 ≤ (t336.length : Int) then (if 1 ≤ (t339.length : Int) then ((channels_Apart.f k (t336.take 1) (t339.take 1) t342).bind fun bt356=>((channels_Together.f k (t336.take 1) (t339.take 1) t342).bind fun bt366=>(if 0 < (t336.length : Int) then (if 0 < (t339.length : Int) then ((shapesearchref14_Distance.f k (rd_L1 t336 0) (rd_L1 t339 0) t342).bind fun bt370=>(if t345 = 0 then (if bt346.2 = 0 then (if bt356.2 = 0 then (if bt366.2 = 0 then (if t344 > bt346.1 then (shapesearchlaw16_ChannelsPaths.j0 k t336 t339 bt346.1 true) else (if bt356.1 = bt370.1 then (shapesearchlaw16_ChannelsPaths.j0 k t336 t339 bt346.1 (bt366.1 != bt370.1)) else (shapesearchlaw16_ChannelsPaths.j0 k t336 t339 bt346.1 true))) else (shapesearchlaw16_ChannelsPaths.j0 k t336 t339 bt346.1 true)) else (shapesearchlaw16_ChannelsPaths.j0 k t336 t339 bt346.1 true)) else (shapesearchlaw16_ChannelsPaths.j0 k t336 t339 bt346.1 true)) else (shapesearchlaw16_ChannelsPaths.j0 k t336 t339 bt346.1 true))) else (none)) else (none)))) else (none)) else (none))) = some r:=H
 have A4:=A_ A40
 clear A40
 replace H:=Option.bind_eq_some_iff.mp H
 obtain ⟨⟨t346,t347⟩,A50,H⟩:=H
 replace H : (if 1 ≤ (t336.length : Int) then (if 1 ≤ (t339.length : Int) then ((channels_Apart.f k (t336.take 1) (t339.take 1) t342).bind fun bt356=>((channels_Together.f k (t336.take 1) (t339.take 1) t342).bind fun bt366=>(if 0 < (t336.length : Int) then (if 0 < (t339.length : Int) then ((shapesearchref14_Distance.f k (rd_L1 t336 0) (rd_L1 t339 0) t342).bind fun bt370=>(if t345 = 0 then (if t347 = 0 then (if bt356.2 = 0 then (if bt366.2 = 0 then (if t344 > t346 then (shapesearchlaw16_ChannelsPaths.j0 k t336 t339 t346 true) else (if bt356.1 = bt370.1 then (shapesearchlaw16_ChannelsPaths.j0 k t336 t339 t346 (bt366.1 != bt370.1)) else (shapesearchlaw16_ChannelsPaths.j0 k t336 t339 t346 true))) else (shapesearchlaw16_ChannelsPaths.j0 k t336 t339 t346 true)) else (shapesearchlaw16_ChannelsPaths.j0 k t336 t339 t346 true)) else (shapesearchlaw16_ChannelsPaths.j0 k t336 t339 t346 true)) else (shapesearchlaw16_ChannelsPaths.j0 k t336 t339 t346 true))) else (none)) else (none)))) else (none)) else (none)) = some r:=H
 have A5:=A_ A50
 clear A50
 by_cases c6 : 1 ≤ (t336.length : Int)
 ·
  rw [if_pos c6] at H
  have c6b0:=eq_true c6
  have c6b1 : decide (1 ≤ (t336.length : Int)) = true:=decide_eq_true c6
  clear c6
  obtain ⟨y348,hy348⟩ : ∃ y_ : List (List Int),y_ = (t336.take 1):=⟨_,rfl⟩
  replace H : (if 1 ≤ (t339.length : Int) then ((channels_Apart.f k y348 (t339.take 1) t342).bind fun bt356=>((channels_Together.f k (t336.take 1) (t339.take 1) t342).bind fun bt366=>(if 0 < (t336.length : Int) then (if 0 < (t339.length : Int) then ((shapesearchref14_Distance.f k (rd_L1 t336 0) (rd_L1 t339 0) t342).bind fun bt370=>(if t345 = 0 then (if t347 = 0 then (if bt356.2 = 0 then (if bt366.2 = 0 then (if t344 > t346 then (shapesearchlaw16_ChannelsPaths.j0 k t336 t339 t346 true) else (if bt356.1 = bt370.1 then (shapesearchlaw16_ChannelsPaths.j0 k t336 t339 t346 (bt366.1 != bt370.1)) else (shapesearchlaw16_ChannelsPaths.j0 k t336 t339 t346 true))) else (shapesearchlaw16_ChannelsPaths.j0 k t336 t339 t346 true)) else (shapesearchlaw16_ChannelsPaths.j0 k t336 t339 t346 true)) else (shapesearchlaw16_ChannelsPaths.j0 k t336 t339 t346 true)) else (shapesearchlaw16_ChannelsPaths.j0 k t336 t339 t346 true))) else (none)) else (none)))) else (none)) = some r:=by first|(rw [hy348];with_reducible exact H)|(have H2_:=(Option.bind_some _ _).symm.trans H;rw [hy348];with_reducible exact H2_)|(have H2_:=(Option.bind_some _ _).symm.trans H;with_reducible exact H2_)|with_reducible exact H|(rw [hy348];exact H)|exact H
  have Ny348:=A_ hy348
  clear hy348
  by_cases c7 : 1 ≤ (t339.length : Int)
  ·
   rw [if_pos c7] at H
   have c7b0:=eq_true c7
   have c7b1 : decide (1 ≤ (t339.length : Int)) = true:=decide_eq_true c7
   clear c7
   obtain ⟨y352,hy352⟩ : ∃ y_ : List (List Int),y_ = (t339.take 1):=⟨_,rfl⟩
   replace H : ((channels_Apart.f k y348 y352 t342).bind fun bt356=>((channels_Together.f k (t336.take 1) (t339.take 1) t342).bind fun bt366=>(if 0 < (t336.length : Int) then (if 0 < (t339.length : Int) then ((shapesearchref14_Distance.f k (rd_L1 t336 0) (rd_L1 t339 0) t342).bind fun bt370=>(if t345 = 0 then (if t347 = 0 then (if bt356.2 = 0 then (if bt366.2 = 0 then (if t344 > t346 then (shapesearchlaw16_ChannelsPaths.j0 k t336 t339 t346 true) else (if bt356.1 = bt370.1 then (shapesearchlaw16_ChannelsPaths.j0 k t336 t339 t346 (bt366.1 != bt370.1)) else (shapesearchlaw16_ChannelsPaths.j0 k t336 t339 t346 true))) else (shapesearchlaw16_ChannelsPaths.j0 k t336 t339 t346 true)) else (shapesearchlaw16_ChannelsPaths.j0 k t336 t339 t346 true)) else (shapesearchlaw16_ChannelsPaths.j0 k t336 t339 t346 true)) else (shapesearchlaw16_ChannelsPaths.j0 k t336 t339 t346 true))) else (none)) else (none)))) = some r:=by first|(rw [hy352];with_reducible exact H)|(have H2_:=(Option.bind_some _ _).symm.trans H;rw [hy352];with_reducible exact H2_)|(have H2_:=(Option.bind_some _ _).symm.trans H;with_reducible exact H2_)|with_reducible exact H|(rw [hy352];exact H)|exact H
   have Ny352:=A_ hy352
   clear hy352
   replace H:=Option.bind_eq_some_iff.mp H
   obtain ⟨⟨t356,t357⟩,A80,H⟩:=H
   replace H : ((channels_Together.f k (t336.take 1) (t339.take 1) t342).bind fun bt366=>(if 0 < (t336.length : Int) then (if 0 < (t339.length : Int) then ((shapesearchref14_Distance.f k (rd_L1 t336 0) (rd_L1 t339 0) t342).bind fun bt370=>(if t345 = 0 then (if t347 = 0 then (if t357 = 0 then (if bt366.2 = 0 then (if t344 > t346 then (shapesearchlaw16_ChannelsPaths.j0 k t336 t339 t346 true) else (if t356 = bt370.1 then (shapesearchlaw16_ChannelsPaths.j0 k t336 t339 t346 (bt366.1 != bt370.1)) else (shapesearchlaw16_ChannelsPaths.j0 k t336 t339 t346 true))) else (shapesearchlaw16_ChannelsPaths.j0 k t336 t339 t346 true)) else (shapesearchlaw16_ChannelsPaths.j0 k t336 t339 t346 true)) else (shapesearchlaw16_ChannelsPaths.j0 k t336 t339 t346 true)) else (shapesearchlaw16_ChannelsPaths.j0 k t336 t339 t346 true))) else (none)) else (none))) = some r:=H
   have A8:=A_ A80
   clear A80
   have c9b0:=eq_true (of_decide_eq_true (by first|(with_reducible assumption)|assumption) : 1 ≤ (t336.length : Int))
   obtain ⟨y358,hy358⟩ : ∃ y_ : List (List Int),y_ = (t336.take 1):=⟨_,rfl⟩
   replace H : ((channels_Together.f k y358 (t339.take 1) t342).bind fun bt366=>(if 0 < (t336.length : Int) then (if 0 < (t339.length : Int) then ((shapesearchref14_Distance.f k (rd_L1 t336 0) (rd_L1 t339 0) t342).bind fun bt370=>(if t345 = 0 then (if t347 = 0 then (if t357 = 0 then (if bt366.2 = 0 then (if t344 > t346 then (shapesearchlaw16_ChannelsPaths.j0 k t336 t339 t346 true) else (if t356 = bt370.1 then (shapesearchlaw16_ChannelsPaths.j0 k t336 t339 t346 (bt366.1 != bt370.1)) else (shapesearchlaw16_ChannelsPaths.j0 k t336 t339 t346 true))) else (shapesearchlaw16_ChannelsPaths.j0 k t336 t339 t346 true)) else (shapesearchlaw16_ChannelsPaths.j0 k t336 t339 t346 true)) else (shapesearchlaw16_ChannelsPaths.j0 k t336 t339 t346 true)) else (shapesearchlaw16_ChannelsPaths.j0 k t336 t339 t346 true))) else (none)) else (none))) = some r:=by first|(rw [hy358];with_reducible exact H)|(have H2_:=(Option.bind_some _ _).symm.trans H;rw [hy358];with_reducible exact H2_)|(have H2_:=(Option.bind_some _ _).symm.trans H;with_reducible exact H2_)|with_reducible exact H|(rw [hy358];exact H)|exact H
   have Ny358:=A_ hy358
   clear hy358
   have c10b0:=eq_true (of_decide_eq_true (by first|(with_reducible assumption)|assumption) : 1 ≤ (t339.length : Int))
   obtain ⟨y362,hy362⟩ : ∃ y_ : List (List Int),y_ = (t339.take 1):=⟨_,rfl⟩
   replace H : ((channels_Together.f k y358 y362 t342).bind fun bt366=>(if 0 < (t336.length : Int) then (if 0 < (t339.length : Int) then ((shapesearchref14_Distance.f k (rd_L1 t336 0) (rd_L1 t339 0) t342).bind fun bt370=>(if t345 = 0 then (if t347 = 0 then (if t357 = 0 then (if bt366.2 = 0 then (if t344 > t346 then (shapesearchlaw16_ChannelsPaths.j0 k t336 t339 t346 true) else (if t356 = bt370.1 then (shapesearchlaw16_ChannelsPaths.j0 k t336 t339 t346 (bt366.1 != bt370.1)) else (shapesearchlaw16_ChannelsPaths.j0 k t336 t339 t346 true))) else (shapesearchlaw16_ChannelsPaths.j0 k t336 t339 t346 true)) else (shapesearchlaw16_ChannelsPaths.j0 k t336 t339 t346 true)) else (shapesearchlaw16_ChannelsPaths.j0 k t336 t339 t346 true)) else (shapesearchlaw16_ChannelsPaths.j0 k t336 t339 t346 true))) else (none)) else (none))) = some r:=by first|(rw [hy362];with_reducible exact H)|(have H2_:=(Option.bind_some _ _).symm.trans H;rw [hy362];with_reducible exact H2_)|(have H2_:=(Option.bind_some _ _).symm.trans H;with_reducible exact H2_)|with_reducible exact H|(rw [hy362];exact H)|exact H
   have Ny362:=A_ hy362
   clear hy362
   replace H:=Option.bind_eq_some_iff.mp H
   obtain ⟨⟨t366,t367⟩,A110,H⟩:=H
   replace H : (if 0 < (t336.length : Int) then (if 0 < (t339.length : Int) then ((shapesearchref14_Distance.f k (rd_L1 t336 0) (rd_L1 t339 0) t342).bind fun bt370=>(if t345 = 0 then (if t347 = 0 then (if t357 = 0 then (if t367 = 0 then (if t344 > t346 then (shapesearchlaw16_ChannelsPaths.j0 k t336 t339 t346 true) else (if t356 = bt370.1 then (shapesearchlaw16_ChannelsPaths.j0 k t336 t339 t346 (t366 != bt370.1)) else (shapesearchlaw16_ChannelsPaths.j0 k t336 t339 t346 true))) else (shapesearchlaw16_ChannelsPaths.j0 k t336 t339 t346 true)) else (shapesearchlaw16_ChannelsPaths.j0 k t336 t339 t346 true)) else (shapesearchlaw16_ChannelsPaths.j0 k t336 t339 t346 true)) else (shapesearchlaw16_ChannelsPaths.j0 k t336 t339 t346 true))) else (none)) else (none)) = some r:=H
   have A11:=A_ A110
   clear A110
   by_cases c12 : 0 < (t336.length : Int)
   ·
    rw [if_pos c12] at H
    have c12b0 : decide (0 < (t336.length : Int)) = true:=decide_eq_true c12
    have c12b1 : decide (0 < t336.length) = true:=decide_eq_true (by omega)
    clear c12
    by_cases c13 : 0 < (t339.length : Int)
    ·
     rw [if_pos c13] at H
     have c13b0 : decide (0 < (t339.length : Int)) = true:=decide_eq_true c13
     have c13b1 : decide (0 < t339.length) = true:=decide_eq_true (by omega)
     clear c13
     replace H:=Option.bind_eq_some_iff.mp H
     obtain ⟨⟨t370,t371⟩,A140,H⟩:=H
     replace H : (if t345 = 0 then (if t347 = 0 then (if t357 = 0 then (if t367 = 0 then (if t344 > t346 then (shapesearchlaw16_ChannelsPaths.j0 k t336 t339 t346 true) else (if t356 = t370 then (shapesearchlaw16_ChannelsPaths.j0 k t336 t339 t346 (t366 != t370)) else (shapesearchlaw16_ChannelsPaths.j0 k t336 t339 t346 true))) else (shapesearchlaw16_ChannelsPaths.j0 k t336 t339 t346 true)) else (shapesearchlaw16_ChannelsPaths.j0 k t336 t339 t346 true)) else (shapesearchlaw16_ChannelsPaths.j0 k t336 t339 t346 true)) else (shapesearchlaw16_ChannelsPaths.j0 k t336 t339 t346 true)) = some r:=H
     have A14:=A_ A140
     clear A140
     have HC15:=A_ H
     clear H
     go_enter Try.func3,Try.ntmps3
     try go_wp2_with (first|((with_reducible refine gate_callee (f:=10) rfl ?_);refine goesL_ (some 20) rfl rfl Try.func10 (by kernel_rfl) rfl #[.slice A0 l0.length c0] rfl (by (try simp only [List.map_toArray,List.map_cons,List.map_nil]);first|done|rfl|(simp only [List.length_drop,List.length_take];rfl)|((try rw [KY23.out]);(try rw [KY24.out]);(try rw [KY27.out]);(try rw [KY28.out]);rfl)) ?_;(with_reducible refine (shapesearchkeep_New.calls _ _ l0 t333 t334 w _ ?side1 ?side2 ?side3 A2.out).mono ?_);(case side1=>repeat (first|(with_reducible first|exact HB.out|apply ba|apply bb|apply bc)|exact HB.out));(case side2=>exact HR0.out);(case side3=>exact HC0.out);rintro e w16 ⟨g335,rfl,hi,hb,hb2⟩;refine ⟨_,rfl,?_⟩;have n0_:=A_ (hb);have n1_:=A_ (hi);clear HB;have HB:=n0_;have HI335:=n1_;clear n0_ n1_;(try clear hb);(try clear hb2);(try clear hk);(try clear hi))|((with_reducible refine gate_callee (f:=9) rfl ?_);refine goesL_ (some 21) rfl rfl Try.func9 (by kernel_rfl) rfl #[.pointer (some ⟨g335,0,none⟩)] rfl (by (try simp only [List.map_toArray,List.map_cons,List.map_nil]);first|done|rfl|(simp only [List.length_drop,List.length_take];rfl)|((try rw [KY23.out]);(try rw [KY24.out]);(try rw [KY27.out]);(try rw [KY28.out]);rfl)) ?_;(with_reducible refine (shapesearchlaw16_bundles.calls k g335 t333 t334 t336 t339 t342 t343 w _ ?side1 ?side2 A3.out).mono ?_);(case side1=>repeat (first|(with_reducible first|exact HI335.out|apply IsS56.alloc|apply IsS56.drewN|apply IsS56.drew|apply IsS56.set_1)|exact HI335.out));(case side2=>repeat (first|(with_reducible first|exact HB.out|apply ba|apply bb|apply bc|refine below_set ?_ (IsS56.ge HI335.out))|exact HB.out));rintro e w17 ⟨v337,v340,rfl,ho0,ho1,hi,hb,hk⟩;refine ⟨_,rfl,?_⟩;have n0_:=A_ (Kd.S_lower ho0 (below_size (by repeat (first|(with_reducible first|exact HB.out|apply ba|apply bb|apply bc|refine below_set ?_ (IsS56.ge HI335.out))|exact HB.out))));have n1_:=A_ (Kd.S_lower ho1 (below_size (by repeat (first|(with_reducible first|exact HB.out|apply ba|apply bb|apply bc|refine below_set ?_ (IsS56.ge HI335.out))|exact HB.out))));have n2_:=A_ (hb);have n3_:=A_ (hi);clear HB;clear HI335;have HO338:=n0_;have HO341:=n1_;have HB:=n2_;have HI335:=n3_;clear n0_ n1_ n2_ n3_;(try clear hb);(try clear hb2);(try clear hk);(try clear hi);(try clear ho0);(try clear ho1);obtain ⟨Ao18,co18,eo18⟩:=Kd.S_slice HO338.out;subst eo18;obtain ⟨Ao19,co19,eo19⟩:=Kd.S_slice HO341.out;subst eo19)|((with_reducible refine gate_callee (f:=11) rfl ?_);refine goesL_ (some 29) rfl rfl Try.func11 (by kernel_rfl) rfl #[.slice Ao18 t336.length co18,.slice Ao19 t339.length co19,.int .i64 t342] rfl (by (try simp only [List.map_toArray,List.map_cons,List.map_nil]);first|done|rfl|(simp only [List.length_drop,List.length_take];rfl)|((try rw [KY23.out]);(try rw [KY24.out]);(try rw [KY27.out]);(try rw [KY28.out]);rfl)) ?_;(with_reducible refine (channels_Apart.calls k _ _ t336 _ _ t339 t342 t344 t345 _ ?side1 ?side2 ?side3 ?side4 A4.out).mono ?_);(case side1=>repeat (first|exact (Kd.S_reads' HO338.out).2.2|(with_reducible refine ca ?_ _)|(with_reducible refine cb ?_ _)|(with_reducible refine cc ?_)));(case side2=>exact (Kd.S_reads' HO338.out).2.1);(case side3=>repeat (first|exact (Kd.S_reads' HO341.out).2.2|(with_reducible refine ca ?_ _)|(with_reducible refine cb ?_ _)|(with_reducible refine cc ?_)));(case side4=>exact (Kd.S_reads' HO341.out).2.1);rintro e w20 ⟨rfl,hb⟩;refine ⟨_,rfl,?_⟩;have n0_:=A_ (Kd.S_below (by (with_reducible repeat (first|apply sa_|apply sd_|apply se_));exact HO338.out) hb);have n1_:=A_ (Kd.S_below (by (with_reducible repeat (first|apply sa_|apply sd_|apply se_));exact HO341.out) hb);have n2_:=A_ (IsS56.below (by repeat (first|(with_reducible first|exact HI335.out|apply IsS56.alloc|apply IsS56.drewN|apply IsS56.drew|apply IsS56.set_1)|exact HI335.out)) hb);have n3_:=A_ (below_step (by repeat (first|(with_reducible first|exact HB.out|apply ba|apply bb|apply bc|refine below_set ?_ (IsS56.ge HI335.out))|exact HB.out)) hb);clear HO338;clear HO341;clear HI335;clear HB;have HO338:=n0_;have HO341:=n1_;have HI335:=n2_;have HB:=n3_;clear n0_ n1_ n2_ n3_;(try clear hb);(try clear hb2);(try clear hk);(try clear hi))|((with_reducible refine gate_callee (f:=12) rfl ?_);refine goesL_ (some 36) rfl rfl Try.func12 (by kernel_rfl) rfl #[.slice Ao18 t336.length co18,.slice Ao19 t339.length co19,.int .i64 t342] rfl (by (try simp only [List.map_toArray,List.map_cons,List.map_nil]);first|done|rfl|(simp only [List.length_drop,List.length_take];rfl)|((try rw [KY23.out]);(try rw [KY24.out]);(try rw [KY27.out]);(try rw [KY28.out]);rfl)) ?_;(with_reducible refine (channels_Together.calls k _ _ t336 _ _ t339 t342 t346 t347 _ ?side1 ?side2 ?side3 ?side4 A5.out).mono ?_);(case side1=>repeat (first|exact (Kd.S_reads' HO338.out).2.2|(with_reducible refine ca ?_ _)|(with_reducible refine cb ?_ _)|(with_reducible refine cc ?_)));(case side2=>exact (Kd.S_reads' HO338.out).2.1);(case side3=>repeat (first|exact (Kd.S_reads' HO341.out).2.2|(with_reducible refine ca ?_ _)|(with_reducible refine cb ?_ _)|(with_reducible refine cc ?_)));(case side4=>exact (Kd.S_reads' HO341.out).2.1);rintro e w21 ⟨rfl,hb⟩;refine ⟨_,rfl,?_⟩;have n0_:=A_ (Kd.S_below (by (with_reducible repeat (first|apply sa_|apply sd_|apply se_));exact HO338.out) hb);have n1_:=A_ (Kd.S_below (by (with_reducible repeat (first|apply sa_|apply sd_|apply se_));exact HO341.out) hb);have n2_:=A_ (IsS56.below (by repeat (first|(with_reducible first|exact HI335.out|apply IsS56.alloc|apply IsS56.drewN|apply IsS56.drew|apply IsS56.set_1)|exact HI335.out)) hb);have n3_:=A_ (below_step (by repeat (first|(with_reducible first|exact HB.out|apply ba|apply bb|apply bc|refine below_set ?_ (IsS56.ge HI335.out))|exact HB.out)) hb);clear HO338;clear HO341;clear HI335;clear HB;have HO338:=n0_;have HO341:=n1_;have HI335:=n2_;have HB:=n3_;clear n0_ n1_ n2_ n3_;(try clear hb);(try clear hb2);(try clear hk);(try clear hi)))
     have n0_:=A_ (Kd.S_drew HO338.out)
     have n1_:=A_ (Kd.S_drew HO341.out)
     have n2_:=A_ (IsS56.drew HI335.out)
     have n3_:=A_ (below_drew1 HB.out)
     clear HO338
     clear HO341
     clear HI335
     clear HB
     have HO338:=n0_
     have HO341:=n1_
     have HI335:=n2_
     have HB:=n3_
     clear n0_ n1_ n2_ n3_
     have q23 : (1 : Int) ≤ ((t336.length : Int) : Int):=of_decide_eq_true (by first|(with_reducible assumption)|assumption)
     obtain ⟨i023,hi023,_,hsz23,_⟩:=info_parts info22
     have hroom23 : t336.length ≤ co18:=(Kd.S_reads' HO338.out).2.1
     have hC23 : Kd.C (Kd.slice 3 (Kd.int .i64)) _ Ao18 t336.length t336:=(Kd.S_reads' HO338.out).2.2
     have hcut23:=cut_to (P:=Try.prog) 23 22 .i64 Try.underlying23 hi023 Ao18 t336.length co18 1 (by omega) q23 hroom23
     have hr23:=Kd.C_take (m:=1) hC23 (by omega)
     have hy23 : y348.length = (1 : Int).toNat:=(by rw [Ny348.out,List.length_take];omega)
     rw [← Ny348.out] at hr23
     rw [← hy23] at hcut23
     have HR351:=A_ hr23
     have HC351:=A_ (show y348.length ≤ co18 from by omega)
     clear hr23 hC23 hroom23 hi023 hsz23
     have KY23:=A_ hy23
     clear hy23
     have KL23:=A_ (show 1 ≤ t336.length from by omega)
     replace q23:=eq_true q23
     have q24 : (1 : Int) ≤ ((t339.length : Int) : Int):=of_decide_eq_true (by first|(with_reducible assumption)|assumption)
     obtain ⟨i024,hi024,_,hsz24,_⟩:=info_parts info22
     have hroom24 : t339.length ≤ co19:=(Kd.S_reads' HO341.out).2.1
     have hC24 : Kd.C (Kd.slice 3 (Kd.int .i64)) _ Ao19 t339.length t339:=(Kd.S_reads' HO341.out).2.2
     have hcut24:=cut_to (P:=Try.prog) 23 22 .i64 Try.underlying23 hi024 Ao19 t339.length co19 1 (by omega) q24 hroom24
     have hr24:=Kd.C_take (m:=1) hC24 (by omega)
     have hy24 : y352.length = (1 : Int).toNat:=(by rw [Ny352.out,List.length_take];omega)
     rw [← Ny352.out] at hr24
     rw [← hy24] at hcut24
     have HR355:=A_ hr24
     have HC355:=A_ (show y352.length ≤ co19 from by omega)
     clear hr24 hC24 hroom24 hi024 hsz24
     have KY24:=A_ hy24
     clear hy24
     have KL24:=A_ (show 1 ≤ t339.length from by omega)
     replace q24:=eq_true q24
     refine start_ (n:=11) (S:=fun w'=>True) (ds:=[]) #[false,false,false,false,false,false,false,false,false,false,false] (by kernel_rfl) rfl rfl trivial (fun hHeld=>?_);refine with_tabW shapesearchlaw16_ChannelsPaths.tab4 shapesearchlaw16_ChannelsPaths.bits4 (fun HT_ HW_=>?_)
     generalize w21.drew = w22 at HO338 HO341 HI335 HB HR351 HR355 hHeld ⊢
     refine pure_ (i:=0) (N:=some 40) (v:=?_) (a':=?_) #[true,false,false,false,false,false,false,false,false,false,false] rfl rfl (any_of HT_.out (by kernel_rfl)) (fun _ _ _ h=>h) (Or.inl ⟨by rfl,?_⟩) ?_ ?_
     rotate_left
     ·
      intro w'
      go_simp
      with_reducible rfl
     rotate_left
     ·
      simp only [Act.put,sa,sb,sc,i64_w,i32_w]
      rfl
     refine pure_ (i:=1) (N:=some 41) (v:=?_) (a':=?_) #[true,true,false,false,false,false,false,false,false,false,false] rfl rfl (any_of HT_.out (by kernel_rfl)) (fun _ _ _ h=>h) (Or.inl ⟨by rfl,?_⟩) ?_ ?_
     rotate_left
     ·
      intro w'
      go_simp
      with_reducible rfl
     rotate_left
     ·
      simp only [Act.put,sa,sb,sc,i64_w,i32_w]
      rfl
     refine pure_ (i:=2) (N:=some 42) (v:=?_) (a':=?_) #[true,true,true,false,false,false,false,false,false,false,false] rfl rfl (any_of HT_.out (by kernel_rfl)) (fun _ _ _ h=>h) (Or.inl ⟨by rfl,?_⟩) ?_ ?_
     rotate_left
     ·
      intro w'
      go_simp
      with_reducible rfl
     rotate_left
     ·
      simp only [Act.put,sa,sb,sc,i64_w,i32_w]
      rfl
     refine pure_ (i:=3) (N:=some 43) (v:=?_) (a':=?_) #[true,true,true,true,false,false,false,false,false,false,false] rfl rfl (any_of HT_.out (by kernel_rfl)) (fun _ _ _ h=>h) (Or.inl ⟨by rfl,?_⟩) ?_ ?_
     rotate_left
     ·
      intro w'
      go_simp
      with_reducible rfl
     rotate_left
     ·
      simp only [Act.put,sa,sb,sc,i64_w,i32_w]
      rfl
     refine pure_ (i:=4) (N:=some 44) (v:=?_) (a':=?_) #[true,true,true,true,true,false,false,false,false,false,false] rfl rfl (any_of HT_.out (by kernel_rfl)) (fun _ _ _ h=>h) (Or.inl ⟨by rfl,?_⟩) ?_ ?_
     rotate_left
     ·
      intro w'
      go_simp
      with_reducible rfl
     rotate_left
     ·
      simp only [Act.put,sa,sb,sc,i64_w,i32_w]
      rfl
     refine one_ (i:=5) (N:=some 45) #[true,true,true,true,true,true,false,false,false,false,false] rfl rfl (one_of HT_.out (by kernel_rfl)) (by decide) (fun K hK=>?_)
     refine goes_ Try.func11 (by kernel_rfl) rfl #[.slice Ao18 y348.length co18,.slice Ao19 y352.length co19,.int .i64 t342] (by rfl) rfl rfl (by (try simp only [List.map_toArray,List.map_cons,List.map_nil]);first|done|rfl|(simp only [List.length_drop,List.length_take];rfl)|((try rw [KY23.out]);(try rw [KY24.out]);(try rw [KY27.out]);(try rw [KY28.out]);rfl)) ?_
     with_reducible refine (channels_Apart.calls k _ _ y348 _ _ y352 t342 t356 t357 _ ?side1 ?side2 ?side3 ?side4 A8.out).mono ?_
     (case side1=>repeat (first|exact (by repeat (first|(with_reducible exact HR351.out)|(with_reducible refine ca ?_ _)|(with_reducible refine cb ?_ _)|(with_reducible refine cc ?_)|exact HR351.out))|(with_reducible refine ca ?_ _)|(with_reducible refine cb ?_ _)|(with_reducible refine cc ?_)))
     (case side2=>exact HC351.out)
     (case side3=>repeat (first|exact (by repeat (first|(with_reducible exact HR355.out)|(with_reducible refine ca ?_ _)|(with_reducible refine cb ?_ _)|(with_reducible refine cc ?_)|exact HR355.out))|(with_reducible refine ca ?_ _)|(with_reducible refine cb ?_ _)|(with_reducible refine cc ?_)))
     (case side4=>exact HC355.out)
     rintro e w25 ⟨rfl,hb⟩
     refine ⟨_,rfl,?_⟩
     have n0_:=A_ (Kd.S_below (by (with_reducible repeat (first|apply sa_|apply sd_|apply se_));exact HO338.out) hb)
     have n1_:=A_ (Kd.S_below (by (with_reducible repeat (first|apply sa_|apply sd_|apply se_));exact HO341.out) hb)
     have n2_:=A_ (IsS56.below (by repeat (first|(with_reducible first|exact HI335.out|apply IsS56.alloc|apply IsS56.drewN|apply IsS56.drew|apply IsS56.set_1)|exact HI335.out)) hb)
     have n3_:=A_ (cl (by repeat (first|(with_reducible exact HR351.out)|(with_reducible refine ca ?_ _)|(with_reducible refine cb ?_ _)|(with_reducible refine cc ?_)|exact HR351.out)) hb)
     have n4_:=A_ (cl (by repeat (first|(with_reducible exact HR355.out)|(with_reducible refine ca ?_ _)|(with_reducible refine cb ?_ _)|(with_reducible refine cc ?_)|exact HR355.out)) hb)
     have n5_:=A_ (below_step (by repeat (first|(with_reducible first|exact HB.out|apply ba|apply bb|apply bc|refine below_set ?_ (IsS56.ge HI335.out))|exact HB.out)) hb)
     clear HO338
     clear HO341
     clear HI335
     clear HR351
     clear HR355
     clear HB
     have HO338:=n0_
     have HO341:=n1_
     have HI335:=n2_
     have HR351:=n3_
     have HR355:=n4_
     have HB:=n5_
     clear n0_ n1_ n2_ n3_ n4_ n5_
     (try clear hb)
     (try clear hb2)
     (try clear hk)
     (try clear hi)
     refine hK.out _ _ trivial (fun hHeld=>?_)
     clear hK K
     refine norm_ (a':=?_) ?_ ?_
     rotate_left
     ·
      show Act.put _ (some 45) _ = _
      simp only [Act.put,sa,sb,sc,i64_w,i32_w]
      rfl
     refine pure_ (i:=6) (N:=some 39) (v:=?_) (a':=?_) #[true,true,true,true,true,true,true,false,false,false,false] rfl rfl (any_of HT_.out (by kernel_rfl)) (fun _ _ _ h=>h) (Or.inl ⟨by rfl,?_⟩) ?_ ?_
     rotate_left
     ·
      intro w'
      go_simp
      with_reducible rfl
     rotate_left
     ·
      simp only [Act.put,sa,sb,sc,i64_w,i32_w]
      rfl
     refine pure_ (i:=7) (N:=some 46) (v:=?_) (a':=?_) #[true,true,true,true,true,true,true,true,false,false,false] rfl rfl (any_of HT_.out (by kernel_rfl)) (fun _ _ _ h=>h) (Or.inl ⟨by rfl,?_⟩) ?_ ?_
     rotate_left
     ·
      intro w'
      go_simp
      with_reducible rfl
     rotate_left
     ·
      simp only [Act.put,sa,sb,sc,i64_w,i32_w]
      rfl
     refine pure_ (i:=8) (N:=some 47) (v:=?_) (a':=?_) #[true,true,true,true,true,true,true,true,true,false,false] rfl rfl (any_of HT_.out (by kernel_rfl)) (fun _ _ _ h=>h) (Or.inl ⟨by rfl,?_⟩) ?_ ?_
     rotate_left
     ·
      intro w'
      go_simp
      with_reducible rfl
     rotate_left
     ·
      simp only [Act.put,sa,sb,sc,i64_w,i32_w]
      rfl
     refine pure_ (i:=9) (N:=some 10) (v:=?_) (a':=?_) #[true,true,true,true,true,true,true,true,true,true,false] rfl rfl (any_of HT_.out (by kernel_rfl)) (fun _ _ _ h=>h) (Or.inl ⟨by rfl,?_⟩) ?_ ?_
     rotate_left
     ·
      intro w'
      go_simp
      with_reducible rfl
     rotate_left
     ·
      simp only [Act.put,sa,sb,sc,i64_w,i32_w]
      rfl
     refine pure_ (i:=10) (N:=some 11) (v:=?_) (a':=?_) #[true,true,true,true,true,true,true,true,true,true,true] rfl rfl (any_of HT_.out (by kernel_rfl)) (fun _ _ _ h=>h) (Or.inl ⟨by rfl,?_⟩) ?_ ?_
     rotate_left
     ·
      intro w'
      go_simp
      with_reducible rfl
     rotate_left
     ·
      simp only [Act.put,sa,sb,sc,i64_w,i32_w]
      rfl
     refine done_ (done_of HT_.out (by kernel_rfl)) ?_
     try go_wp2
     have n0_:=A_ (Kd.S_drew HO338.out)
     have n1_:=A_ (Kd.S_drew HO341.out)
     have n2_:=A_ (Kd.C_drew HR351.out)
     have n3_:=A_ (Kd.C_drew HR355.out)
     have n4_:=A_ (IsS56.drew HI335.out)
     have n5_:=A_ (below_drew1 HB.out)
     clear HO338
     clear HO341
     clear HR351
     clear HR355
     clear HI335
     clear HB
     have HO338:=n0_
     have HO341:=n1_
     have HR351:=n2_
     have HR355:=n3_
     have HI335:=n4_
     have HB:=n5_
     clear n0_ n1_ n2_ n3_ n4_ n5_
     have q27 : (1 : Int) ≤ ((t336.length : Int) : Int):=of_decide_eq_true (by first|(with_reducible assumption)|assumption)
     obtain ⟨i027,hi027,_,hsz27,_⟩:=info_parts info22
     have hroom27 : t336.length ≤ co18:=(Kd.S_reads' HO338.out).2.1
     have hC27 : Kd.C (Kd.slice 3 (Kd.int .i64)) _ Ao18 t336.length t336:=(Kd.S_reads' HO338.out).2.2
     have hcut27:=cut_to (P:=Try.prog) 23 22 .i64 Try.underlying23 hi027 Ao18 t336.length co18 1 (by omega) q27 hroom27
     have hr27:=Kd.C_take (m:=1) hC27 (by omega)
     have hy27 : y358.length = (1 : Int).toNat:=(by rw [Ny358.out,List.length_take];omega)
     rw [← Ny358.out] at hr27
     rw [← hy27] at hcut27
     have HR361:=A_ hr27
     have HC361:=A_ (show y358.length ≤ co18 from by omega)
     clear hr27 hC27 hroom27 hi027 hsz27
     have KY27:=A_ hy27
     clear hy27
     have KL27:=A_ (show 1 ≤ t336.length from by omega)
     replace q27:=eq_true q27
     have q28 : (1 : Int) ≤ ((t339.length : Int) : Int):=of_decide_eq_true (by first|(with_reducible assumption)|assumption)
     obtain ⟨i028,hi028,_,hsz28,_⟩:=info_parts info22
     have hroom28 : t339.length ≤ co19:=(Kd.S_reads' HO341.out).2.1
     have hC28 : Kd.C (Kd.slice 3 (Kd.int .i64)) _ Ao19 t339.length t339:=(Kd.S_reads' HO341.out).2.2
     have hcut28:=cut_to (P:=Try.prog) 23 22 .i64 Try.underlying23 hi028 Ao19 t339.length co19 1 (by omega) q28 hroom28
     have hr28:=Kd.C_take (m:=1) hC28 (by omega)
     have hy28 : y362.length = (1 : Int).toNat:=(by rw [Ny362.out,List.length_take];omega)
     rw [← Ny362.out] at hr28
     rw [← hy28] at hcut28
     have HR365:=A_ hr28
     have HC365:=A_ (show y362.length ≤ co19 from by omega)
     clear hr28 hC28 hroom28 hi028 hsz28
     have KY28:=A_ hy28
     clear hy28
     have KL28:=A_ (show 1 ≤ t339.length from by omega)
     replace q28:=eq_true q28
     refine start_ (n:=11) (S:=fun w'=>True) (ds:=[]) #[false,false,false,false,false,false,false,false,false,false,false] (by kernel_rfl) rfl rfl trivial (fun hHeld=>?_);refine with_tabW shapesearchlaw16_ChannelsPaths.tab5 shapesearchlaw16_ChannelsPaths.bits5 (fun HT_ HW_=>?_)
     generalize w25.drew = w26 at HO338 HO341 HR351 HR355 HI335 HB HR361 HR365 hHeld ⊢
     refine pure_ (i:=0) (N:=some 49) (v:=?_) (a':=?_) #[true,false,false,false,false,false,false,false,false,false,false] rfl rfl (any_of HT_.out (by kernel_rfl)) (fun _ _ _ h=>h) (Or.inl ⟨by rfl,?_⟩) ?_ ?_
     rotate_left
     ·
      intro w'
      go_simp
      with_reducible rfl
     rotate_left
     ·
      simp only [Act.put,sa,sb,sc,i64_w,i32_w]
      rfl
     refine pure_ (i:=1) (N:=some 50) (v:=?_) (a':=?_) #[true,true,false,false,false,false,false,false,false,false,false] rfl rfl (any_of HT_.out (by kernel_rfl)) (fun _ _ _ h=>h) (Or.inl ⟨by rfl,?_⟩) ?_ ?_
     rotate_left
     ·
      intro w'
      go_simp
      with_reducible rfl
     rotate_left
     ·
      simp only [Act.put,sa,sb,sc,i64_w,i32_w]
      rfl
     refine pure_ (i:=2) (N:=some 51) (v:=?_) (a':=?_) #[true,true,true,false,false,false,false,false,false,false,false] rfl rfl (any_of HT_.out (by kernel_rfl)) (fun _ _ _ h=>h) (Or.inl ⟨by rfl,?_⟩) ?_ ?_
     rotate_left
     ·
      intro w'
      go_simp
      with_reducible rfl
     rotate_left
     ·
      simp only [Act.put,sa,sb,sc,i64_w,i32_w]
      rfl
     refine pure_ (i:=3) (N:=some 52) (v:=?_) (a':=?_) #[true,true,true,true,false,false,false,false,false,false,false] rfl rfl (any_of HT_.out (by kernel_rfl)) (fun _ _ _ h=>h) (Or.inl ⟨by rfl,?_⟩) ?_ ?_
     rotate_left
     ·
      intro w'
      go_simp
      with_reducible rfl
     rotate_left
     ·
      simp only [Act.put,sa,sb,sc,i64_w,i32_w]
      rfl
     refine pure_ (i:=4) (N:=some 53) (v:=?_) (a':=?_) #[true,true,true,true,true,false,false,false,false,false,false] rfl rfl (any_of HT_.out (by kernel_rfl)) (fun _ _ _ h=>h) (Or.inl ⟨by rfl,?_⟩) ?_ ?_
     rotate_left
     ·
      intro w'
      go_simp
      with_reducible rfl
     rotate_left
     ·
      simp only [Act.put,sa,sb,sc,i64_w,i32_w]
      rfl
     refine one_ (i:=5) (N:=some 54) #[true,true,true,true,true,true,false,false,false,false,false] rfl rfl (one_of HT_.out (by kernel_rfl)) (by decide) (fun K hK=>?_)
     refine goes_ Try.func12 (by kernel_rfl) rfl #[.slice Ao18 y358.length co18,.slice Ao19 y362.length co19,.int .i64 t342] (by rfl) rfl rfl (by (try simp only [List.map_toArray,List.map_cons,List.map_nil]);first|done|rfl|(simp only [List.length_drop,List.length_take];rfl)|((try rw [KY23.out]);(try rw [KY24.out]);(try rw [KY27.out]);(try rw [KY28.out]);rfl)) ?_
     with_reducible refine (channels_Together.calls k _ _ y358 _ _ y362 t342 t366 t367 _ ?side1 ?side2 ?side3 ?side4 A11.out).mono ?_
     (case side1=>repeat (first|exact (by repeat (first|(with_reducible exact HR361.out)|(with_reducible refine ca ?_ _)|(with_reducible refine cb ?_ _)|(with_reducible refine cc ?_)|exact HR361.out))|(with_reducible refine ca ?_ _)|(with_reducible refine cb ?_ _)|(with_reducible refine cc ?_)))
     (case side2=>exact HC361.out)
     (case side3=>repeat (first|exact (by repeat (first|(with_reducible exact HR365.out)|(with_reducible refine ca ?_ _)|(with_reducible refine cb ?_ _)|(with_reducible refine cc ?_)|exact HR365.out))|(with_reducible refine ca ?_ _)|(with_reducible refine cb ?_ _)|(with_reducible refine cc ?_)))
     (case side4=>exact HC365.out)
     rintro e w29 ⟨rfl,hb⟩
     refine ⟨_,rfl,?_⟩
     have n0_:=A_ (Kd.S_below (by (with_reducible repeat (first|apply sa_|apply sd_|apply se_));exact HO338.out) hb)
     have n1_:=A_ (Kd.S_below (by (with_reducible repeat (first|apply sa_|apply sd_|apply se_));exact HO341.out) hb)
     have n2_:=A_ (IsS56.below (by repeat (first|(with_reducible first|exact HI335.out|apply IsS56.alloc|apply IsS56.drewN|apply IsS56.drew|apply IsS56.set_1)|exact HI335.out)) hb)
     have n3_:=A_ (cl (by repeat (first|(with_reducible exact HR351.out)|(with_reducible refine ca ?_ _)|(with_reducible refine cb ?_ _)|(with_reducible refine cc ?_)|exact HR351.out)) hb)
     have n4_:=A_ (cl (by repeat (first|(with_reducible exact HR355.out)|(with_reducible refine ca ?_ _)|(with_reducible refine cb ?_ _)|(with_reducible refine cc ?_)|exact HR355.out)) hb)
     have n5_:=A_ (cl (by repeat (first|(with_reducible exact HR361.out)|(with_reducible refine ca ?_ _)|(with_reducible refine cb ?_ _)|(with_reducible refine cc ?_)|exact HR361.out)) hb)
     have n6_:=A_ (cl (by repeat (first|(with_reducible exact HR365.out)|(with_reducible refine ca ?_ _)|(with_reducible refine cb ?_ _)|(with_reducible refine cc ?_)|exact HR365.out)) hb)
     have n7_:=A_ (below_step (by repeat (first|(with_reducible first|exact HB.out|apply ba|apply bb|apply bc|refine below_set ?_ (IsS56.ge HI335.out))|exact HB.out)) hb)
     clear HO338
     clear HO341
     clear HI335
     clear HR351
     clear HR355
     clear HR361
     clear HR365
     clear HB
     have HO338:=n0_
     have HO341:=n1_
     have HI335:=n2_
     have HR351:=n3_
     have HR355:=n4_
     have HR361:=n5_
     have HR365:=n6_
     have HB:=n7_
     clear n0_ n1_ n2_ n3_ n4_ n5_ n6_ n7_
     (try clear hb)
     (try clear hb2)
     (try clear hk)
     (try clear hi)
     refine hK.out _ _ trivial (fun hHeld=>?_)
     clear hK K
     refine norm_ (a':=?_) ?_ ?_
     rotate_left
     ·
      show Act.put _ (some 54) _ = _
      simp only [Act.put,sa,sb,sc,i64_w,i32_w]
      rfl
     refine pure_ (i:=6) (N:=some 48) (v:=?_) (a':=?_) #[true,true,true,true,true,true,true,false,false,false,false] rfl rfl (any_of HT_.out (by kernel_rfl)) (fun _ _ _ h=>h) (Or.inl ⟨by rfl,?_⟩) ?_ ?_
     rotate_left
     ·
      intro w'
      go_simp
      with_reducible rfl
     rotate_left
     ·
      simp only [Act.put,sa,sb,sc,i64_w,i32_w]
      rfl
     refine pure_ (i:=7) (N:=some 55) (v:=?_) (a':=?_) #[true,true,true,true,true,true,true,true,false,false,false] rfl rfl (any_of HT_.out (by kernel_rfl)) (fun _ _ _ h=>h) (Or.inl ⟨by rfl,?_⟩) ?_ ?_
     rotate_left
     ·
      intro w'
      go_simp
      with_reducible rfl
     rotate_left
     ·
      simp only [Act.put,sa,sb,sc,i64_w,i32_w]
      rfl
     refine pure_ (i:=8) (N:=some 56) (v:=?_) (a':=?_) #[true,true,true,true,true,true,true,true,true,false,false] rfl rfl (any_of HT_.out (by kernel_rfl)) (fun _ _ _ h=>h) (Or.inl ⟨by rfl,?_⟩) ?_ ?_
     rotate_left
     ·
      intro w'
      go_simp
      with_reducible rfl
     rotate_left
     ·
      simp only [Act.put,sa,sb,sc,i64_w,i32_w]
      rfl
     refine pure_ (i:=9) (N:=some 12) (v:=?_) (a':=?_) #[true,true,true,true,true,true,true,true,true,true,false] rfl rfl (any_of HT_.out (by kernel_rfl)) (fun _ _ _ h=>h) (Or.inl ⟨by rfl,?_⟩) ?_ ?_
     rotate_left
     ·
      intro w'
      go_simp
      with_reducible rfl
     rotate_left
     ·
      simp only [Act.put,sa,sb,sc,i64_w,i32_w]
      rfl
     refine pure_ (i:=10) (N:=some 13) (v:=?_) (a':=?_) #[true,true,true,true,true,true,true,true,true,true,true] rfl rfl (any_of HT_.out (by kernel_rfl)) (fun _ _ _ h=>h) (Or.inl ⟨by rfl,?_⟩) ?_ ?_
     rotate_left
     ·
      intro w'
      go_simp
      with_reducible rfl
     rotate_left
     ·
      simp only [Act.put,sa,sb,sc,i64_w,i32_w]
      rfl
     refine done_ (done_of HT_.out (by kernel_rfl)) ?_
     try go_wp2
     have n0_:=A_ (Kd.S_drew HO338.out)
     have n1_:=A_ (Kd.S_drew HO341.out)
     have n2_:=A_ (Kd.C_drew HR351.out)
     have n3_:=A_ (Kd.C_drew HR355.out)
     have n4_:=A_ (Kd.C_drew HR361.out)
     have n5_:=A_ (Kd.C_drew HR365.out)
     have n6_:=A_ (IsS56.drew HI335.out)
     have n7_:=A_ (below_drew1 HB.out)
     clear HO338
     clear HO341
     clear HR351
     clear HR355
     clear HR361
     clear HR365
     clear HI335
     clear HB
     have HO338:=n0_
     have HO341:=n1_
     have HR351:=n2_
     have HR355:=n3_
     have HR361:=n4_
     have HR365:=n5_
     have HI335:=n6_
     have HB:=n7_
     clear n0_ n1_ n2_ n3_ n4_ n5_ n6_ n7_
     have p368 : 0 ≤ (0 : Int):=(by omega)
     have q368 : 0 < (t336.length : Int):=of_decide_eq_true (by first|(with_reducible assumption)|assumption)
     obtain ⟨ad368,A368_0,c368_0,e368,hx368_0,hl368_0,hi368_0⟩:=at_L1 (Kd.S_reads' HO338.out).2.2 0 p368 q368
     cases e368
     obtain ⟨ce368,hce368,hMe368,hcc368⟩:=Kd.S_get HO338.out [] 0 p368 (by first|exact q368|exact of_decide_eq_true (by first|(with_reducible assumption)|assumption)|(have e_:=(Kd.S_reads' HO338.out).1;omega))
     obtain ⟨ve368_0,rfl,ge368_0⟩:=hMe368
     have hv368_0:=hcc368 0 _ rfl
     rw [Nat.add_zero,show ((Kd.slice 3 (Kd.int .i64))).sz = 1 from rfl,Nat.mul_one] at hv368_0
     replace hv368_0:=Option.some.inj (hv368_0.symm.trans hx368_0)
     rw [hv368_0] at ge368_0
     have HL368_0:=A_ (show Kd.R (Kd.int .i64) 3 _ _ _ _ (rd_L1 t336 0) from ge368_0)
     clear hv368_0 ge368_0
     clear hcc368 hce368
     have qi368 : (0 < t336.length) = True:=eq_true (by omega)
     (try rw [show ((0 : Int)).toNat = 0 from rfl] at hx368_0)
     (try rw [Addr.add_zero'] at hx368_0)
     have HR368_0:=A_ hi368_0
     have HC368_0:=A_ hl368_0
     clear hi368_0 hl368_0
     replace p368:=eq_true p368
     replace q368:=eq_true q368
     have p369 : 0 ≤ (0 : Int):=(by omega)
     have q369 : 0 < (t339.length : Int):=of_decide_eq_true (by first|(with_reducible assumption)|assumption)
     obtain ⟨ad369,A369_0,c369_0,e369,hx369_0,hl369_0,hi369_0⟩:=at_L1 (Kd.S_reads' HO341.out).2.2 0 p369 q369
     cases e369
     obtain ⟨ce369,hce369,hMe369,hcc369⟩:=Kd.S_get HO341.out [] 0 p369 (by first|exact q369|exact of_decide_eq_true (by first|(with_reducible assumption)|assumption)|(have e_:=(Kd.S_reads' HO341.out).1;omega))
     obtain ⟨ve369_0,rfl,ge369_0⟩:=hMe369
     have hv369_0:=hcc369 0 _ rfl
     rw [Nat.add_zero,show ((Kd.slice 3 (Kd.int .i64))).sz = 1 from rfl,Nat.mul_one] at hv369_0
     replace hv369_0:=Option.some.inj (hv369_0.symm.trans hx369_0)
     rw [hv369_0] at ge369_0
     have HL369_0:=A_ (show Kd.R (Kd.int .i64) 3 _ _ _ _ (rd_L1 t339 0) from ge369_0)
     clear hv369_0 ge369_0
     clear hcc369 hce369
     have qi369 : (0 < t339.length) = True:=eq_true (by omega)
     (try rw [show ((0 : Int)).toNat = 0 from rfl] at hx369_0)
     (try rw [Addr.add_zero'] at hx369_0)
     have HR369_0:=A_ hi369_0
     have HC369_0:=A_ hl369_0
     clear hi369_0 hl369_0
     replace p369:=eq_true p369
     replace q369:=eq_true q369
     refine start_ (n:=13) (S:=fun w'=>w'.cell? ad368 = some (.slice A368_0 (rd_L1 t336 0).length c368_0)∧w'.cell? ad369 = some (.slice A369_0 (rd_L1 t339 0).length c369_0)) (ds:=[]) #[false,false,false,false,false,false,false,false,false,false,false,false,false] (by kernel_rfl) rfl rfl ⟨hx368_0,hx369_0⟩ (fun hHeld=>?_);refine with_tabW shapesearchlaw16_ChannelsPaths.tab6 shapesearchlaw16_ChannelsPaths.bits6 (fun HT_ HW_=>?_)
     generalize w29.drew = w30 at HO338 HO341 HR351 HR355 HR361 HR365 HI335 HB HL368_0 HL369_0 HR368_0 HR369_0 hx368_0 hx369_0 hHeld ⊢
     refine pure_ (i:=0) (N:=some 58) (v:=?_) (a':=?_) #[true,false,false,false,false,false,false,false,false,false,false,false,false] rfl rfl (any_of HT_.out (by kernel_rfl)) (fun _ _ _ h=>h) (Or.inl ⟨by rfl,?_⟩) ?_ ?_
     rotate_left
     ·
      intro w'
      go_simp
      with_reducible rfl
     rotate_left
     ·
      simp only [Act.put,sa,sb,sc,i64_w,i32_w]
      rfl
     refine pure_ (i:=1) (N:=some 59) (v:=?_) (a':=?_) #[true,true,false,false,false,false,false,false,false,false,false,false,false] rfl rfl (any_of HT_.out (by kernel_rfl)) (fun _ _ _ h=>h) (Or.inl ⟨by rfl,?_⟩) ?_ ?_
     rotate_left
     ·
      intro w'
      go_simp
      with_reducible rfl
     rotate_left
     ·
      simp only [Act.put,sa,sb,sc,i64_w,i32_w]
      rfl
     refine pure_ (i:=3) (N:=some 61) (v:=?_) (a':=?_) #[true,true,false,true,false,false,false,false,false,false,false,false,false] rfl rfl (any_of HT_.out (by kernel_rfl)) (fun _ _ _ h=>h) (Or.inl ⟨by rfl,?_⟩) ?_ ?_
     rotate_left
     ·
      intro w'
      go_simp
      with_reducible rfl
     rotate_left
     ·
      simp only [Act.put,sa,sb,sc,i64_w,i32_w]
      rfl
     refine pure_ (i:=4) (N:=some 62) (v:=?_) (a':=?_) #[true,true,false,true,true,false,false,false,false,false,false,false,false] rfl rfl (any_of HT_.out (by kernel_rfl)) (fun _ _ _ h=>h) (Or.inl ⟨by rfl,?_⟩) ?_ ?_
     rotate_left
     ·
      intro w'
      go_simp
      with_reducible rfl
     rotate_left
     ·
      simp only [Act.put,sa,sb,sc,i64_w,i32_w]
      rfl
     refine pure_ (i:=6) (N:=some 64) (v:=?_) (a':=?_) #[true,true,false,true,true,false,true,false,false,false,false,false,false] rfl rfl (any_of HT_.out (by kernel_rfl)) (fun _ _ _ h=>h) (Or.inl ⟨by rfl,?_⟩) ?_ ?_
     rotate_left
     ·
      intro w'
      go_simp
      with_reducible rfl
     rotate_left
     ·
      simp only [Act.put,sa,sb,sc,i64_w,i32_w]
      rfl
     refine take_ (i:=2) (N:=some 60) (v:=?_) (a':=?_) #[true,true,true,true,true,false,true,false,false,false,false,false,false] rfl rfl (take_ofW HT_.out HW_.out (by kernel_rfl)) (fun _ _ _ h=>h) (Or.inl ⟨by rfl,?_⟩) hHeld ?_ ?_
     rotate_left
     ·
      rintro w' ⟨s0,s1⟩
      go_simp
      with_reducible rfl
     rotate_left
     ·
      simp only [Act.put,sa,sb,sc,i64_w,i32_w]
      rfl
     refine take_ (i:=5) (N:=some 63) (v:=?_) (a':=?_) #[true,true,true,true,true,true,true,false,false,false,false,false,false] rfl rfl (take_ofW HT_.out HW_.out (by kernel_rfl)) (fun _ _ _ h=>h) (Or.inl ⟨by rfl,?_⟩) hHeld ?_ ?_
     rotate_left
     ·
      rintro w' ⟨s0,s1⟩
      go_simp
      with_reducible rfl
     rotate_left
     ·
      simp only [Act.put,sa,sb,sc,i64_w,i32_w]
      rfl
     refine one_ (i:=7) (N:=some 65) #[true,true,true,true,true,true,true,true,false,false,false,false,false] rfl rfl (one_of HT_.out (by kernel_rfl)) (by decide) (fun K hK=>?_)
     refine goes_ Try.func13 (by kernel_rfl) rfl #[.slice A368_0 (rd_L1 t336 0).length c368_0,.slice A369_0 (rd_L1 t339 0).length c369_0,.int .i64 t342] (by rfl) rfl rfl (by (try simp only [List.map_toArray,List.map_cons,List.map_nil]);first|done|rfl|(simp only [List.length_drop,List.length_take];rfl)|((try rw [KY23.out]);(try rw [KY24.out]);(try rw [KY27.out]);(try rw [KY28.out]);rfl)) ?_
     with_reducible refine (shapesearchref14_Distance.calls k _ _ (rd_L1 t336 0) _ _ (rd_L1 t339 0) t342 t370 t371 _ ?side1 ?side2 ?side3 ?side4 A14.out).mono ?_
     (case side1=>repeat (first|exact (by repeat (first|(with_reducible exact HR368_0.out)|(with_reducible refine ca ?_ _)|(with_reducible refine cb ?_ _)|(with_reducible refine cc ?_)|exact HR368_0.out))|(with_reducible refine ca ?_ _)|(with_reducible refine cb ?_ _)|(with_reducible refine cc ?_)))
     (case side2=>exact HC368_0.out)
     (case side3=>repeat (first|exact (by repeat (first|(with_reducible exact HR369_0.out)|(with_reducible refine ca ?_ _)|(with_reducible refine cb ?_ _)|(with_reducible refine cc ?_)|exact HR369_0.out))|(with_reducible refine ca ?_ _)|(with_reducible refine cb ?_ _)|(with_reducible refine cc ?_)))
     (case side4=>exact HC369_0.out)
     rintro e w31 ⟨rfl,hb⟩
     have HS0_:=(hb.cell (World.block_lt_of_cell? _ _ (hHeld.1))).trans (hHeld.1)
     have HS1_:=(hb.cell (World.block_lt_of_cell? _ _ (hHeld.2))).trans (hHeld.2)
     refine ⟨_,rfl,?_⟩
     have n0_:=A_ (Kd.S_below (by (with_reducible repeat (first|apply sa_|apply sd_|apply se_));exact HO338.out) hb)
     have n1_:=A_ (Kd.S_below (by (with_reducible repeat (first|apply sa_|apply sd_|apply se_));exact HO341.out) hb)
     have n2_:=A_ (rw_ (by (with_reducible repeat (first|apply ra|apply rb|apply rc));exact HL368_0.out) hb)
     have n3_:=A_ (rw_ (by (with_reducible repeat (first|apply ra|apply rb|apply rc));exact HL369_0.out) hb)
     have n4_:=A_ (IsS56.below (by repeat (first|(with_reducible first|exact HI335.out|apply IsS56.alloc|apply IsS56.drewN|apply IsS56.drew|apply IsS56.set_1)|exact HI335.out)) hb)
     have n5_:=A_ (cl (by repeat (first|(with_reducible exact HR351.out)|(with_reducible refine ca ?_ _)|(with_reducible refine cb ?_ _)|(with_reducible refine cc ?_)|exact HR351.out)) hb)
     have n6_:=A_ (cl (by repeat (first|(with_reducible exact HR355.out)|(with_reducible refine ca ?_ _)|(with_reducible refine cb ?_ _)|(with_reducible refine cc ?_)|exact HR355.out)) hb)
     have n7_:=A_ (cl (by repeat (first|(with_reducible exact HR361.out)|(with_reducible refine ca ?_ _)|(with_reducible refine cb ?_ _)|(with_reducible refine cc ?_)|exact HR361.out)) hb)
     have n8_:=A_ (cl (by repeat (first|(with_reducible exact HR365.out)|(with_reducible refine ca ?_ _)|(with_reducible refine cb ?_ _)|(with_reducible refine cc ?_)|exact HR365.out)) hb)
     have n9_:=A_ (cl (by repeat (first|(with_reducible exact HR368_0.out)|(with_reducible refine ca ?_ _)|(with_reducible refine cb ?_ _)|(with_reducible refine cc ?_)|exact HR368_0.out)) hb)
     have n10_:=A_ (cl (by repeat (first|(with_reducible exact HR369_0.out)|(with_reducible refine ca ?_ _)|(with_reducible refine cb ?_ _)|(with_reducible refine cc ?_)|exact HR369_0.out)) hb)
     have n11_:=A_ (below_step (by repeat (first|(with_reducible first|exact HB.out|apply ba|apply bb|apply bc|refine below_set ?_ (IsS56.ge HI335.out))|exact HB.out)) hb)
     clear HO338
     clear HO341
     clear HL368_0
     clear HL369_0
     clear HI335
     clear HR351
     clear HR355
     clear HR361
     clear HR365
     clear HR368_0
     clear HR369_0
     clear HB
     have HO338:=n0_
     have HO341:=n1_
     have HL368_0:=n2_
     have HL369_0:=n3_
     have HI335:=n4_
     have HR351:=n5_
     have HR355:=n6_
     have HR361:=n7_
     have HR365:=n8_
     have HR368_0:=n9_
     have HR369_0:=n10_
     have HB:=n11_
     clear n0_ n1_ n2_ n3_ n4_ n5_ n6_ n7_ n8_ n9_ n10_ n11_
     (try clear hb)
     (try clear hb2)
     (try clear hk)
     (try clear hi)
     refine hK.out _ _ ⟨HS0_,HS1_⟩ (fun hHeld=>?_)
     clear hK K
     refine norm_ (a':=?_) ?_ ?_
     rotate_left
     ·
      show Act.put _ (some 65) _ = _
      simp only [Act.put,sa,sb,sc,i64_w,i32_w]
      rfl
     refine pure_ (i:=8) (N:=some 57) (v:=?_) (a':=?_) #[true,true,true,true,true,true,true,true,true,false,false,false,false] rfl rfl (any_of HT_.out (by kernel_rfl)) (fun _ _ _ h=>h) (Or.inl ⟨by rfl,?_⟩) ?_ ?_
     rotate_left
     ·
      intro w'
      go_simp
      with_reducible rfl
     rotate_left
     ·
      simp only [Act.put,sa,sb,sc,i64_w,i32_w]
      rfl
     refine pure_ (i:=9) (N:=some 66) (v:=?_) (a':=?_) #[true,true,true,true,true,true,true,true,true,true,false,false,false] rfl rfl (any_of HT_.out (by kernel_rfl)) (fun _ _ _ h=>h) (Or.inl ⟨by rfl,?_⟩) ?_ ?_
     rotate_left
     ·
      intro w'
      go_simp
      with_reducible rfl
     rotate_left
     ·
      simp only [Act.put,sa,sb,sc,i64_w,i32_w]
      rfl
     refine pure_ (i:=10) (N:=some 67) (v:=?_) (a':=?_) #[true,true,true,true,true,true,true,true,true,true,true,false,false] rfl rfl (any_of HT_.out (by kernel_rfl)) (fun _ _ _ h=>h) (Or.inl ⟨by rfl,?_⟩) ?_ ?_
     rotate_left
     ·
      intro w'
      go_simp
      with_reducible rfl
     rotate_left
     ·
      simp only [Act.put,sa,sb,sc,i64_w,i32_w]
      rfl
     refine pure_ (i:=11) (N:=some 14) (v:=?_) (a':=?_) #[true,true,true,true,true,true,true,true,true,true,true,true,false] rfl rfl (any_of HT_.out (by kernel_rfl)) (fun _ _ _ h=>h) (Or.inl ⟨by rfl,?_⟩) ?_ ?_
     rotate_left
     ·
      intro w'
      go_simp
      with_reducible rfl
     rotate_left
     ·
      simp only [Act.put,sa,sb,sc,i64_w,i32_w]
      rfl
     refine pure_ (i:=12) (N:=some 15) (v:=?_) (a':=?_) #[true,true,true,true,true,true,true,true,true,true,true,true,true] rfl rfl (any_of HT_.out (by kernel_rfl)) (fun _ _ _ h=>h) (Or.inl ⟨by rfl,?_⟩) ?_ ?_
     rotate_left
     ·
      intro w'
      go_simp
      with_reducible rfl
     rotate_left
     ·
      simp only [Act.put,sa,sb,sc,i64_w,i32_w]
      rfl
     refine done_ (done_of HT_.out (by kernel_rfl)) ?_
     go_upto_region 7 with (fail)
     go_cut [96] (fun v96 wc=>∃ (kq : Nat) (x96_14 : Bool),v96 = .bool x96_14∧Aside0 (shapesearchlaw16_ChannelsPaths.j0 kq t336 t339 t346 x96_14 = some r)∧Aside0 (kq ≤ k)∧Aside0 (Kd.S (Kd.slice 3 (Kd.int .i64)) 22 wc w.heap.size (fun k_=>some k_≠((.slice (some ad369) t339.length co19) : Value).ownBlock) (.slice (some ad368) t336.length co18) t336)∧Aside0 (Kd.S (Kd.slice 3 (Kd.int .i64)) 22 wc w.heap.size (fun k_=>some k_≠((.slice (some ad368) t336.length co18) : Value).ownBlock) (.slice (some ad369) t339.length co19) t339)∧Aside0 (Kd.C (Kd.slice 3 (Kd.int .i64)) wc (some ad368) y348.length y348)∧Aside0 (Kd.C (Kd.slice 3 (Kd.int .i64)) wc (some ad369) y352.length y352)∧Aside0 (Kd.C (Kd.slice 3 (Kd.int .i64)) wc (some ad368) y358.length y358)∧Aside0 (Kd.C (Kd.slice 3 (Kd.int .i64)) wc (some ad369) y362.length y362)∧Aside0 (Kd.C (Kd.int .i64) wc A368_0 (rd_L1 t336 0).length (rd_L1 t336 0))∧Aside0 (Kd.C (Kd.int .i64) wc A369_0 (rd_L1 t339 0).length (rd_L1 t339 0))∧Aside0 (Below w.heap.size w wc))
     case first =>
      have H:=HC15.out
      clear HC15
      by_cases c32 : t345 = 0
      ·
       rw [if_pos c32] at H
       have c32b0 : (t345 == 0) = true:=beq_iff_eq.mpr c32
       have c32b1 : (t345 != 0) = false:=bne_eq_false_iff_eq.mpr c32
       clear c32
       (first|rw [c32b0]|(simp only [i64_w,i32_w];rw [c32b0])|skip)
       by_cases c33 : t347 = 0
       ·
        rw [if_pos c33] at H
        have c33b0 : (t347 == 0) = true:=beq_iff_eq.mpr c33
        have c33b1 : (t347 != 0) = false:=bne_eq_false_iff_eq.mpr c33
        clear c33
        by_cases c34 : t357 = 0
        ·
         rw [if_pos c34] at H
         have c34b0 : (t357 == 0) = true:=beq_iff_eq.mpr c34
         have c34b1 : (t357 != 0) = false:=bne_eq_false_iff_eq.mpr c34
         clear c34
         by_cases c35 : t367 = 0
         ·
          rw [if_pos c35] at H
          have c35b0 : (t367 == 0) = true:=beq_iff_eq.mpr c35
          have c35b1 : (t367 != 0) = false:=bne_eq_false_iff_eq.mpr c35
          clear c35
          by_cases c36 : t344 > t346
          ·
           rw [if_pos c36] at H
           have c36b0 : decide (t346 < t344) = true:=decide_eq_true c36
           clear c36
           have H':=A_ H
           clear H
           go_wp2
           go_meet
           case rel=>exact ⟨_,(true),(by first|rfl|(simp;done)|(simp [*];done)),H',⟨by first|omega|exact Nat.le_refl _⟩,⟨by (with_reducible repeat (first|apply sa_|apply sd_|apply se_));exact HO338.out⟩,⟨by (with_reducible repeat (first|apply sa_|apply sd_|apply se_));exact HO341.out⟩,⟨by repeat (first|(with_reducible exact HR351.out)|(with_reducible refine ca ?_ _)|(with_reducible refine cb ?_ _)|(with_reducible refine cc ?_)|exact HR351.out)⟩,⟨by repeat (first|(with_reducible exact HR355.out)|(with_reducible refine ca ?_ _)|(with_reducible refine cb ?_ _)|(with_reducible refine cc ?_)|exact HR355.out)⟩,⟨by repeat (first|(with_reducible exact HR361.out)|(with_reducible refine ca ?_ _)|(with_reducible refine cb ?_ _)|(with_reducible refine cc ?_)|exact HR361.out)⟩,⟨by repeat (first|(with_reducible exact HR365.out)|(with_reducible refine ca ?_ _)|(with_reducible refine cb ?_ _)|(with_reducible refine cc ?_)|exact HR365.out)⟩,⟨by repeat (first|(with_reducible exact HR368_0.out)|(with_reducible refine ca ?_ _)|(with_reducible refine cb ?_ _)|(with_reducible refine cc ?_)|exact HR368_0.out)⟩,⟨by repeat (first|(with_reducible exact HR369_0.out)|(with_reducible refine ca ?_ _)|(with_reducible refine cb ?_ _)|(with_reducible refine cc ?_)|exact HR369_0.out)⟩,⟨by repeat (first|(with_reducible first|exact HB.out|apply ba|apply bb|apply bc|refine below_set ?_ (IsS56.ge HI335.out))|exact HB.out)⟩⟩
          ·
           rw [if_neg c36] at H
           have c36b0 : decide (t346 < t344) = false:=decide_eq_false c36
           clear c36
           by_cases c37 : t356 = t370
           ·
            rw [if_pos c37] at H
            have c37b0 : (t356 == t370) = true:=beq_iff_eq.mpr c37
            have c37b1 : (t356 != t370) = false:=bne_eq_false_iff_eq.mpr c37
            clear c37
            have H':=A_ H
            clear H
            go_wp2
            go_meet
            case rel=>exact ⟨_,((t366 != t370)),(by first|rfl|(simp;done)|(simp [*];done)),H',⟨by first|omega|exact Nat.le_refl _⟩,⟨by (with_reducible repeat (first|apply sa_|apply sd_|apply se_));exact HO338.out⟩,⟨by (with_reducible repeat (first|apply sa_|apply sd_|apply se_));exact HO341.out⟩,⟨by repeat (first|(with_reducible exact HR351.out)|(with_reducible refine ca ?_ _)|(with_reducible refine cb ?_ _)|(with_reducible refine cc ?_)|exact HR351.out)⟩,⟨by repeat (first|(with_reducible exact HR355.out)|(with_reducible refine ca ?_ _)|(with_reducible refine cb ?_ _)|(with_reducible refine cc ?_)|exact HR355.out)⟩,⟨by repeat (first|(with_reducible exact HR361.out)|(with_reducible refine ca ?_ _)|(with_reducible refine cb ?_ _)|(with_reducible refine cc ?_)|exact HR361.out)⟩,⟨by repeat (first|(with_reducible exact HR365.out)|(with_reducible refine ca ?_ _)|(with_reducible refine cb ?_ _)|(with_reducible refine cc ?_)|exact HR365.out)⟩,⟨by repeat (first|(with_reducible exact HR368_0.out)|(with_reducible refine ca ?_ _)|(with_reducible refine cb ?_ _)|(with_reducible refine cc ?_)|exact HR368_0.out)⟩,⟨by repeat (first|(with_reducible exact HR369_0.out)|(with_reducible refine ca ?_ _)|(with_reducible refine cb ?_ _)|(with_reducible refine cc ?_)|exact HR369_0.out)⟩,⟨by repeat (first|(with_reducible first|exact HB.out|apply ba|apply bb|apply bc|refine below_set ?_ (IsS56.ge HI335.out))|exact HB.out)⟩⟩
           ·
            rw [if_neg c37] at H
            have c37b0 : (t356 == t370) = false:=beq_eq_false_iff_ne.mpr c37
            have c37b1 : (t356 != t370) = true:=bne_iff_ne.mpr c37
            have H':=A_ H
            clear H
            go_wp2
            go_meet
            case rel=>exact ⟨_,(true),(by first|rfl|(simp;done)|(simp [*];done)),H',⟨by first|omega|exact Nat.le_refl _⟩,⟨by (with_reducible repeat (first|apply sa_|apply sd_|apply se_));exact HO338.out⟩,⟨by (with_reducible repeat (first|apply sa_|apply sd_|apply se_));exact HO341.out⟩,⟨by repeat (first|(with_reducible exact HR351.out)|(with_reducible refine ca ?_ _)|(with_reducible refine cb ?_ _)|(with_reducible refine cc ?_)|exact HR351.out)⟩,⟨by repeat (first|(with_reducible exact HR355.out)|(with_reducible refine ca ?_ _)|(with_reducible refine cb ?_ _)|(with_reducible refine cc ?_)|exact HR355.out)⟩,⟨by repeat (first|(with_reducible exact HR361.out)|(with_reducible refine ca ?_ _)|(with_reducible refine cb ?_ _)|(with_reducible refine cc ?_)|exact HR361.out)⟩,⟨by repeat (first|(with_reducible exact HR365.out)|(with_reducible refine ca ?_ _)|(with_reducible refine cb ?_ _)|(with_reducible refine cc ?_)|exact HR365.out)⟩,⟨by repeat (first|(with_reducible exact HR368_0.out)|(with_reducible refine ca ?_ _)|(with_reducible refine cb ?_ _)|(with_reducible refine cc ?_)|exact HR368_0.out)⟩,⟨by repeat (first|(with_reducible exact HR369_0.out)|(with_reducible refine ca ?_ _)|(with_reducible refine cb ?_ _)|(with_reducible refine cc ?_)|exact HR369_0.out)⟩,⟨by repeat (first|(with_reducible first|exact HB.out|apply ba|apply bb|apply bc|refine below_set ?_ (IsS56.ge HI335.out))|exact HB.out)⟩⟩
         ·
          rw [if_neg c35] at H
          have c35b0 : (t367 == 0) = false:=beq_eq_false_iff_ne.mpr c35
          have c35b1 : (t367 != 0) = true:=bne_iff_ne.mpr c35
          have H':=A_ H
          clear H
          go_wp2
          go_meet
          case rel=>exact ⟨_,(true),(by first|rfl|(simp;done)|(simp [*];done)),H',⟨by first|omega|exact Nat.le_refl _⟩,⟨by (with_reducible repeat (first|apply sa_|apply sd_|apply se_));exact HO338.out⟩,⟨by (with_reducible repeat (first|apply sa_|apply sd_|apply se_));exact HO341.out⟩,⟨by repeat (first|(with_reducible exact HR351.out)|(with_reducible refine ca ?_ _)|(with_reducible refine cb ?_ _)|(with_reducible refine cc ?_)|exact HR351.out)⟩,⟨by repeat (first|(with_reducible exact HR355.out)|(with_reducible refine ca ?_ _)|(with_reducible refine cb ?_ _)|(with_reducible refine cc ?_)|exact HR355.out)⟩,⟨by repeat (first|(with_reducible exact HR361.out)|(with_reducible refine ca ?_ _)|(with_reducible refine cb ?_ _)|(with_reducible refine cc ?_)|exact HR361.out)⟩,⟨by repeat (first|(with_reducible exact HR365.out)|(with_reducible refine ca ?_ _)|(with_reducible refine cb ?_ _)|(with_reducible refine cc ?_)|exact HR365.out)⟩,⟨by repeat (first|(with_reducible exact HR368_0.out)|(with_reducible refine ca ?_ _)|(with_reducible refine cb ?_ _)|(with_reducible refine cc ?_)|exact HR368_0.out)⟩,⟨by repeat (first|(with_reducible exact HR369_0.out)|(with_reducible refine ca ?_ _)|(with_reducible refine cb ?_ _)|(with_reducible refine cc ?_)|exact HR369_0.out)⟩,⟨by repeat (first|(with_reducible first|exact HB.out|apply ba|apply bb|apply bc|refine below_set ?_ (IsS56.ge HI335.out))|exact HB.out)⟩⟩
        ·
         rw [if_neg c34] at H
         have c34b0 : (t357 == 0) = false:=beq_eq_false_iff_ne.mpr c34
         have c34b1 : (t357 != 0) = true:=bne_iff_ne.mpr c34
         have H':=A_ H
         clear H
         go_wp2
         go_meet
         case rel=>exact ⟨_,(true),(by first|rfl|(simp;done)|(simp [*];done)),H',⟨by first|omega|exact Nat.le_refl _⟩,⟨by (with_reducible repeat (first|apply sa_|apply sd_|apply se_));exact HO338.out⟩,⟨by (with_reducible repeat (first|apply sa_|apply sd_|apply se_));exact HO341.out⟩,⟨by repeat (first|(with_reducible exact HR351.out)|(with_reducible refine ca ?_ _)|(with_reducible refine cb ?_ _)|(with_reducible refine cc ?_)|exact HR351.out)⟩,⟨by repeat (first|(with_reducible exact HR355.out)|(with_reducible refine ca ?_ _)|(with_reducible refine cb ?_ _)|(with_reducible refine cc ?_)|exact HR355.out)⟩,⟨by repeat (first|(with_reducible exact HR361.out)|(with_reducible refine ca ?_ _)|(with_reducible refine cb ?_ _)|(with_reducible refine cc ?_)|exact HR361.out)⟩,⟨by repeat (first|(with_reducible exact HR365.out)|(with_reducible refine ca ?_ _)|(with_reducible refine cb ?_ _)|(with_reducible refine cc ?_)|exact HR365.out)⟩,⟨by repeat (first|(with_reducible exact HR368_0.out)|(with_reducible refine ca ?_ _)|(with_reducible refine cb ?_ _)|(with_reducible refine cc ?_)|exact HR368_0.out)⟩,⟨by repeat (first|(with_reducible exact HR369_0.out)|(with_reducible refine ca ?_ _)|(with_reducible refine cb ?_ _)|(with_reducible refine cc ?_)|exact HR369_0.out)⟩,⟨by repeat (first|(with_reducible first|exact HB.out|apply ba|apply bb|apply bc|refine below_set ?_ (IsS56.ge HI335.out))|exact HB.out)⟩⟩
       ·
        rw [if_neg c33] at H
        have c33b0 : (t347 == 0) = false:=beq_eq_false_iff_ne.mpr c33
        have c33b1 : (t347 != 0) = true:=bne_iff_ne.mpr c33
        have H':=A_ H
        clear H
        go_wp2
        go_meet
        case rel=>exact ⟨_,(true),(by first|rfl|(simp;done)|(simp [*];done)),H',⟨by first|omega|exact Nat.le_refl _⟩,⟨by (with_reducible repeat (first|apply sa_|apply sd_|apply se_));exact HO338.out⟩,⟨by (with_reducible repeat (first|apply sa_|apply sd_|apply se_));exact HO341.out⟩,⟨by repeat (first|(with_reducible exact HR351.out)|(with_reducible refine ca ?_ _)|(with_reducible refine cb ?_ _)|(with_reducible refine cc ?_)|exact HR351.out)⟩,⟨by repeat (first|(with_reducible exact HR355.out)|(with_reducible refine ca ?_ _)|(with_reducible refine cb ?_ _)|(with_reducible refine cc ?_)|exact HR355.out)⟩,⟨by repeat (first|(with_reducible exact HR361.out)|(with_reducible refine ca ?_ _)|(with_reducible refine cb ?_ _)|(with_reducible refine cc ?_)|exact HR361.out)⟩,⟨by repeat (first|(with_reducible exact HR365.out)|(with_reducible refine ca ?_ _)|(with_reducible refine cb ?_ _)|(with_reducible refine cc ?_)|exact HR365.out)⟩,⟨by repeat (first|(with_reducible exact HR368_0.out)|(with_reducible refine ca ?_ _)|(with_reducible refine cb ?_ _)|(with_reducible refine cc ?_)|exact HR368_0.out)⟩,⟨by repeat (first|(with_reducible exact HR369_0.out)|(with_reducible refine ca ?_ _)|(with_reducible refine cb ?_ _)|(with_reducible refine cc ?_)|exact HR369_0.out)⟩,⟨by repeat (first|(with_reducible first|exact HB.out|apply ba|apply bb|apply bc|refine below_set ?_ (IsS56.ge HI335.out))|exact HB.out)⟩⟩
      ·
       rw [if_neg c32] at H
       have c32b0 : (t345 == 0) = false:=beq_eq_false_iff_ne.mpr c32
       have c32b1 : (t345 != 0) = true:=bne_iff_ne.mpr c32
       (first|rw [c32b0]|(simp only [i64_w,i32_w];rw [c32b0])|skip)
       have H':=A_ H
       clear H
       go_wp2
       go_meet
       case rel=>exact ⟨_,(true),(by first|rfl|(simp;done)|(simp [*];done)),H',⟨by first|omega|exact Nat.le_refl _⟩,⟨by (with_reducible repeat (first|apply sa_|apply sd_|apply se_));exact HO338.out⟩,⟨by (with_reducible repeat (first|apply sa_|apply sd_|apply se_));exact HO341.out⟩,⟨by repeat (first|(with_reducible exact HR351.out)|(with_reducible refine ca ?_ _)|(with_reducible refine cb ?_ _)|(with_reducible refine cc ?_)|exact HR351.out)⟩,⟨by repeat (first|(with_reducible exact HR355.out)|(with_reducible refine ca ?_ _)|(with_reducible refine cb ?_ _)|(with_reducible refine cc ?_)|exact HR355.out)⟩,⟨by repeat (first|(with_reducible exact HR361.out)|(with_reducible refine ca ?_ _)|(with_reducible refine cb ?_ _)|(with_reducible refine cc ?_)|exact HR361.out)⟩,⟨by repeat (first|(with_reducible exact HR365.out)|(with_reducible refine ca ?_ _)|(with_reducible refine cb ?_ _)|(with_reducible refine cc ?_)|exact HR365.out)⟩,⟨by repeat (first|(with_reducible exact HR368_0.out)|(with_reducible refine ca ?_ _)|(with_reducible refine cb ?_ _)|(with_reducible refine cc ?_)|exact HR368_0.out)⟩,⟨by repeat (first|(with_reducible exact HR369_0.out)|(with_reducible refine ca ?_ _)|(with_reducible refine cb ?_ _)|(with_reducible refine cc ?_)|exact HR369_0.out)⟩,⟨by repeat (first|(with_reducible first|exact HB.out|apply ba|apply bb|apply bc|refine below_set ?_ (IsS56.ge HI335.out))|exact HB.out)⟩⟩
     case rest =>
      clear HC15
      try clear c1
      try clear p2
      try clear q2
      try clear c3
      try clear p3
      try clear q3
      try clear hx3
      try clear qi3
      try clear c11
      try clear c12
      try clear c13
      try clear q27
      try clear q28
      try clear c32
      try clear c32b0
      try clear c32b1
      try clear c33
      try clear c33b0
      try clear c33b1
      try clear c34
      try clear c34b0
      try clear c34b1
      try clear c35
      try clear c35b0
      try clear c35b1
      try clear c36
      try clear c36b0
      try clear p36
      try clear q36
      try clear hx36
      try clear qi36
      try clear c37
      try clear c37b0
      try clear c37b1
      try clear hx368_0
      try clear hx369_0
      try clear p368
      try clear p369
      try clear q27
      try clear q28
      try clear q368
      try clear q369
      obtain ⟨kq,x96_14,rfl,HA,HJ14,HO_3,HO_4,HR351,HR355,HR361,HR365,HR368_0,HR369_0,HB⟩:=hcut
      cases kq with
      | zero=>exact absurd HA.out (by simp [shapesearchlaw16_ChannelsPaths.j0])
      | succ kj14 =>
       have H:=HA.out
       clear HA
       simp only [shapesearchlaw16_ChannelsPaths.j0] at H
       by_cases c38 : x96_14 = true
       ·
        subst c38
        have H1 : (some false) = some r:=by rw [if_pos rfl] at H;exact H
        clear H
        have H:=H1
        clear H1
        exact absurd ((Option.some.inj H).trans HTR_.out) (by decide)
       ·
        replace c38:=Bool.eq_false_iff.mpr c38
        subst c38
        have H1 : (if 0 < (t336.length : Int) then (if 0 < (t339.length : Int) then (if ((rd_L1 t336 0).length : Int) = ((rd_L1 t339 0).length : Int) then ((channels_Euclid.f kj14 t336 t339).bind fun bt374=>(if bt374.2 = 0 then (if t346 ≤ bt374.1 then ((shapesearchlaw16_awake.f kj14).bind fun t376=>(some t376)) else (some false)) else (some false))) else ((shapesearchlaw16_awake.f kj14).bind fun t377=>(some t377))) else (none)) else (none)) = some r:=by rw [if_neg (show ¬ (false = true) by decide)] at H;exact H
        clear H
        have H:=H1
        clear H1
        by_cases c39 : 0 < (t336.length : Int)
        ·
         rw [if_pos c39] at H
         have c39b0 : decide (0 < (t336.length : Int)) = true:=decide_eq_true c39
         have c39b1 : decide (0 < t336.length) = true:=decide_eq_true (by omega)
         clear c39
         by_cases c40 : 0 < (t339.length : Int)
         ·
          rw [if_pos c40] at H
          have c40b0 : decide (0 < (t339.length : Int)) = true:=decide_eq_true c40
          have c40b1 : decide (0 < t339.length) = true:=decide_eq_true (by omega)
          clear c40
          by_cases c41 : ((rd_L1 t336 0).length : Int) = ((rd_L1 t339 0).length : Int)
          ·
           rw [if_pos c41] at H
           have c41b0 : (((rd_L1 t336 0).length : Int) == ((rd_L1 t339 0).length : Int)) = true:=beq_iff_eq.mpr c41
           have c41b1 : (((rd_L1 t336 0).length : Int) != ((rd_L1 t339 0).length : Int)) = false:=bne_eq_false_iff_eq.mpr c41
           have c41b2 : ((rd_L1 t336 0).length == (rd_L1 t339 0).length) = true:=by first|simpa using c41|(simp at c41 ⊢;omega)
           clear c41
           replace H:=Option.bind_eq_some_iff.mp H
           obtain ⟨⟨t374,t375⟩,A420,H⟩:=H
           replace H : (if t375 = 0 then (if t346 ≤ t374 then ((shapesearchlaw16_awake.f kj14).bind fun t376=>(some t376)) else (some false)) else (some false)) = some r:=H
           have A42:=A_ A420
           clear A420
           have HC43:=A_ H
           clear H
           try go_wp2
           have n0_:=A_ (Kd.S_drew HO_3.out)
           have n1_:=A_ (Kd.S_drew HO_4.out)
           have n2_:=A_ (Kd.C_drew HR351.out)
           have n3_:=A_ (Kd.C_drew HR355.out)
           have n4_:=A_ (Kd.C_drew HR361.out)
           have n5_:=A_ (Kd.C_drew HR365.out)
           have n6_:=A_ (Kd.C_drew HR368_0.out)
           have n7_:=A_ (Kd.C_drew HR369_0.out)
           have n8_:=A_ (below_drew1 HB.out)
           clear HO_3
           clear HO_4
           clear HR351
           clear HR355
           clear HR361
           clear HR365
           clear HR368_0
           clear HR369_0
           clear HB
           have HO_3:=n0_
           have HO_4:=n1_
           have HR351:=n2_
           have HR355:=n3_
           have HR361:=n4_
           have HR365:=n5_
           have HR368_0:=n6_
           have HR369_0:=n7_
           have HB:=n8_
           clear n0_ n1_ n2_ n3_ n4_ n5_ n6_ n7_ n8_
           have p372 : 0 ≤ (0 : Int):=(by omega)
           have q372 : 0 < (t336.length : Int):=of_decide_eq_true (by first|(with_reducible assumption)|assumption)
           obtain ⟨ad372,A372_0,c372_0,e372,hx372_0,hl372_0,hi372_0⟩:=at_L1 (Kd.S_reads' HO_3.out).2.2 0 p372 q372
           obtain rfl : ad368 = ad372:=(by injection e372)
           obtain ⟨ce372,hce372,hMe372,hcc372⟩:=Kd.S_get HO_3.out [] 0 p372 (by first|exact q372|exact of_decide_eq_true (by first|(with_reducible assumption)|assumption)|(have e_:=(Kd.S_reads' HO_3.out).1;omega))
           obtain ⟨ve372_0,rfl,ge372_0⟩:=hMe372
           have hv372_0:=hcc372 0 _ rfl
           rw [Nat.add_zero,show ((Kd.slice 3 (Kd.int .i64))).sz = 1 from rfl,Nat.mul_one] at hv372_0
           replace hv372_0:=Option.some.inj (hv372_0.symm.trans hx372_0)
           rw [hv372_0] at ge372_0
           have HL372_0:=A_ (show Kd.R (Kd.int .i64) 3 _ _ _ _ (rd_L1 t336 0) from ge372_0)
           clear hv372_0 ge372_0
           clear hcc372 hce372
           have qi372 : (0 < t336.length) = True:=eq_true (by omega)
           (try rw [show ((0 : Int)).toNat = 0 from rfl] at hx372_0)
           (try rw [Addr.add_zero'] at hx372_0)
           have HR372_0:=A_ hi372_0
           have HC372_0:=A_ hl372_0
           clear hi372_0 hl372_0
           replace p372:=eq_true p372
           replace q372:=eq_true q372
           have p373 : 0 ≤ (0 : Int):=(by omega)
           have q373 : 0 < (t339.length : Int):=of_decide_eq_true (by first|(with_reducible assumption)|assumption)
           obtain ⟨ad373,A373_0,c373_0,e373,hx373_0,hl373_0,hi373_0⟩:=at_L1 (Kd.S_reads' HO_4.out).2.2 0 p373 q373
           obtain rfl : ad369 = ad373:=(by injection e373)
           obtain ⟨ce373,hce373,hMe373,hcc373⟩:=Kd.S_get HO_4.out [] 0 p373 (by first|exact q373|exact of_decide_eq_true (by first|(with_reducible assumption)|assumption)|(have e_:=(Kd.S_reads' HO_4.out).1;omega))
           obtain ⟨ve373_0,rfl,ge373_0⟩:=hMe373
           have hv373_0:=hcc373 0 _ rfl
           rw [Nat.add_zero,show ((Kd.slice 3 (Kd.int .i64))).sz = 1 from rfl,Nat.mul_one] at hv373_0
           replace hv373_0:=Option.some.inj (hv373_0.symm.trans hx373_0)
           rw [hv373_0] at ge373_0
           have HL373_0:=A_ (show Kd.R (Kd.int .i64) 3 _ _ _ _ (rd_L1 t339 0) from ge373_0)
           clear hv373_0 ge373_0
           clear hcc373 hce373
           have qi373 : (0 < t339.length) = True:=eq_true (by omega)
           (try rw [show ((0 : Int)).toNat = 0 from rfl] at hx373_0)
           (try rw [Addr.add_zero'] at hx373_0)
           have HR373_0:=A_ hi373_0
           have HC373_0:=A_ hl373_0
           clear hi373_0 hl373_0
           replace p373:=eq_true p373
           replace q373:=eq_true q373
           refine start_ (n:=9) (S:=fun w'=>w'.cell? ad368 = some (.slice A372_0 (rd_L1 t336 0).length c372_0)∧w'.cell? ad369 = some (.slice A373_0 (rd_L1 t339 0).length c373_0)) (ds:=[]) #[false,false,false,false,false,false,false,false,false] (by kernel_rfl) rfl rfl ⟨hx372_0,hx373_0⟩ (fun hHeld=>?_);refine with_tabW shapesearchlaw16_ChannelsPaths.tab9 shapesearchlaw16_ChannelsPaths.bits9 (fun HT_ HW_=>?_)
           generalize wc.drew = w44 at HO_3 HO_4 HR351 HR355 HR361 HR365 HR368_0 HR369_0 HB HL372_0 HL373_0 HR372_0 HR373_0 hx372_0 hx373_0 hHeld ⊢
           refine pure_ (i:=0) (N:=some 97) (v:=?_) (a':=?_) #[true,false,false,false,false,false,false,false,false] rfl rfl (any_of HT_.out (by kernel_rfl)) (fun _ _ _ h=>h) (Or.inl ⟨by rfl,?_⟩) ?_ ?_
           rotate_left
           ·
            intro w'
            go_simp
            with_reducible rfl
           rotate_left
           ·
            simp only [Act.put,sa,sb,sc,i64_w,i32_w]
            rfl
           refine pure_ (i:=1) (N:=some 98) (v:=?_) (a':=?_) #[true,true,false,false,false,false,false,false,false] rfl rfl (any_of HT_.out (by kernel_rfl)) (fun _ _ _ h=>h) (Or.inl ⟨by rfl,?_⟩) ?_ ?_
           rotate_left
           ·
            intro w'
            go_simp
            with_reducible rfl
           rotate_left
           ·
            simp only [Act.put,sa,sb,sc,i64_w,i32_w]
            rfl
           refine pure_ (i:=4) (N:=some 101) (v:=?_) (a':=?_) #[true,true,false,false,true,false,false,false,false] rfl rfl (any_of HT_.out (by kernel_rfl)) (fun _ _ _ h=>h) (Or.inl ⟨by rfl,?_⟩) ?_ ?_
           rotate_left
           ·
            intro w'
            go_simp
            with_reducible rfl
           rotate_left
           ·
            simp only [Act.put,sa,sb,sc,i64_w,i32_w]
            rfl
           refine pure_ (i:=5) (N:=some 102) (v:=?_) (a':=?_) #[true,true,false,false,true,true,false,false,false] rfl rfl (any_of HT_.out (by kernel_rfl)) (fun _ _ _ h=>h) (Or.inl ⟨by rfl,?_⟩) ?_ ?_
           rotate_left
           ·
            intro w'
            go_simp
            with_reducible rfl
           rotate_left
           ·
            simp only [Act.put,sa,sb,sc,i64_w,i32_w]
            rfl
           refine take_ (i:=2) (N:=some 99) (v:=?_) (a':=?_) #[true,true,true,false,true,true,false,false,false] rfl rfl (take_ofW HT_.out HW_.out (by kernel_rfl)) (fun _ _ _ h=>h) (Or.inl ⟨by rfl,?_⟩) hHeld ?_ ?_
           rotate_left
           ·
            rintro w' ⟨s0,s1⟩
            go_simp
            with_reducible rfl
           rotate_left
           ·
            simp only [Act.put,sa,sb,sc,i64_w,i32_w]
            rfl
           refine pure_ (i:=3) (N:=some 100) (v:=?_) (a':=?_) #[true,true,true,true,true,true,false,false,false] rfl rfl (any_of HT_.out (by kernel_rfl)) (fun _ _ _ h=>h) (Or.inl ⟨by rfl,?_⟩) ?_ ?_
           rotate_left
           ·
            intro w'
            go_simp
            with_reducible rfl
           rotate_left
           ·
            simp only [Act.put,sa,sb,sc,i64_w,i32_w]
            rfl
           refine take_ (i:=6) (N:=some 103) (v:=?_) (a':=?_) #[true,true,true,true,true,true,true,false,false] rfl rfl (take_ofW HT_.out HW_.out (by kernel_rfl)) (fun _ _ _ h=>h) (Or.inl ⟨by rfl,?_⟩) hHeld ?_ ?_
           rotate_left
           ·
            rintro w' ⟨s0,s1⟩
            go_simp
            with_reducible rfl
           rotate_left
           ·
            simp only [Act.put,sa,sb,sc,i64_w,i32_w]
            rfl
           refine pure_ (i:=7) (N:=some 104) (v:=?_) (a':=?_) #[true,true,true,true,true,true,true,true,false] rfl rfl (any_of HT_.out (by kernel_rfl)) (fun _ _ _ h=>h) (Or.inl ⟨by rfl,?_⟩) ?_ ?_
           rotate_left
           ·
            intro w'
            go_simp
            with_reducible rfl
           rotate_left
           ·
            simp only [Act.put,sa,sb,sc,i64_w,i32_w]
            rfl
           refine pure_ (i:=8) (N:=some 105) (v:=?_) (a':=?_) #[true,true,true,true,true,true,true,true,true] rfl rfl (any_of HT_.out (by kernel_rfl)) (fun _ _ _ h=>h) (Or.inl ⟨by rfl,?_⟩) ?_ ?_
           rotate_left
           ·
            intro w'
            go_simp
            with_reducible rfl
           rotate_left
           ·
            simp only [Act.put,sa,sb,sc,i64_w,i32_w]
            rfl
           refine done_ (done_of HT_.out (by kernel_rfl)) ?_
           go_upto_region 11 with (first|((with_reducible refine gate_callee (f:=14) rfl ?_);refine goesL_ (some 109) rfl rfl Try.func14 (by kernel_rfl) rfl #[.slice (some ad368) t336.length co18,.slice (some ad369) t339.length co19] rfl (by (try simp only [List.map_toArray,List.map_cons,List.map_nil]);first|done|rfl|(simp only [List.length_drop,List.length_take];rfl)|((try rw [KY23.out]);(try rw [KY24.out]);(try rw [KY27.out]);(try rw [KY28.out]);rfl)) ?_;(with_reducible refine (channels_Euclid.calls kj14 _ _ t336 _ _ t339 t374 t375 _ ?side1 ?side2 ?side3 ?side4 A42.out).mono ?_);(case side1=>repeat (first|exact (Kd.S_reads' HO_3.out).2.2|(with_reducible refine ca ?_ _)|(with_reducible refine cb ?_ _)|(with_reducible refine cc ?_)));(case side2=>exact (Kd.S_reads' HO_3.out).2.1);(case side3=>repeat (first|exact (Kd.S_reads' HO_4.out).2.2|(with_reducible refine ca ?_ _)|(with_reducible refine cb ?_ _)|(with_reducible refine cc ?_)));(case side4=>exact (Kd.S_reads' HO_4.out).2.1);rintro e w45 ⟨rfl,hb⟩;refine ⟨_,rfl,?_⟩;have n0_:=A_ (Kd.S_below (by (with_reducible repeat (first|apply sa_|apply sd_|apply se_));exact HO_3.out) hb);have n1_:=A_ (Kd.S_below (by (with_reducible repeat (first|apply sa_|apply sd_|apply se_));exact HO_4.out) hb);have n2_:=A_ (rw_ (by (with_reducible repeat (first|apply ra|apply rb|apply rc));exact HL372_0.out) hb);have n3_:=A_ (rw_ (by (with_reducible repeat (first|apply ra|apply rb|apply rc));exact HL373_0.out) hb);have n4_:=A_ (cl (by repeat (first|(with_reducible exact HR351.out)|(with_reducible refine ca ?_ _)|(with_reducible refine cb ?_ _)|(with_reducible refine cc ?_)|exact HR351.out)) hb);have n5_:=A_ (cl (by repeat (first|(with_reducible exact HR355.out)|(with_reducible refine ca ?_ _)|(with_reducible refine cb ?_ _)|(with_reducible refine cc ?_)|exact HR355.out)) hb);have n6_:=A_ (cl (by repeat (first|(with_reducible exact HR361.out)|(with_reducible refine ca ?_ _)|(with_reducible refine cb ?_ _)|(with_reducible refine cc ?_)|exact HR361.out)) hb);have n7_:=A_ (cl (by repeat (first|(with_reducible exact HR365.out)|(with_reducible refine ca ?_ _)|(with_reducible refine cb ?_ _)|(with_reducible refine cc ?_)|exact HR365.out)) hb);have n8_:=A_ (cl (by repeat (first|(with_reducible exact HR368_0.out)|(with_reducible refine ca ?_ _)|(with_reducible refine cb ?_ _)|(with_reducible refine cc ?_)|exact HR368_0.out)) hb);have n9_:=A_ (cl (by repeat (first|(with_reducible exact HR369_0.out)|(with_reducible refine ca ?_ _)|(with_reducible refine cb ?_ _)|(with_reducible refine cc ?_)|exact HR369_0.out)) hb);have n10_:=A_ (cl (by repeat (first|(with_reducible exact HR372_0.out)|(with_reducible refine ca ?_ _)|(with_reducible refine cb ?_ _)|(with_reducible refine cc ?_)|exact HR372_0.out)) hb);have n11_:=A_ (cl (by repeat (first|(with_reducible exact HR373_0.out)|(with_reducible refine ca ?_ _)|(with_reducible refine cb ?_ _)|(with_reducible refine cc ?_)|exact HR373_0.out)) hb);have n12_:=A_ (below_step (by repeat (first|(with_reducible first|exact HB.out|apply ba|apply bb|apply bc)|exact HB.out)) hb);clear HO_3;clear HO_4;clear HL372_0;clear HL373_0;clear HR351;clear HR355;clear HR361;clear HR365;clear HR368_0;clear HR369_0;clear HR372_0;clear HR373_0;clear HB;have HO_3:=n0_;have HO_4:=n1_;have HL372_0:=n2_;have HL373_0:=n3_;have HR351:=n4_;have HR355:=n5_;have HR361:=n6_;have HR365:=n7_;have HR368_0:=n8_;have HR369_0:=n9_;have HR372_0:=n10_;have HR373_0:=n11_;have HB:=n12_;clear n0_ n1_ n2_ n3_ n4_ n5_ n6_ n7_ n8_ n9_ n10_ n11_ n12_;(try clear hb);(try clear hb2);(try clear hk);(try clear hi)))
           (try simp only [Act.put,List.setIfInBounds_toArray,List.set_cons_zero,List.set_cons_succ])
           have H:=HC43.out
           clear HC43
           by_cases c46 : t375 = 0
           ·
            rw [if_pos c46] at H
            have c46b0 : (t375 == 0) = true:=beq_iff_eq.mpr c46
            have c46b1 : (t375 != 0) = false:=bne_eq_false_iff_eq.mpr c46
            clear c46
            (first|rw [c46b0]|(simp only [i64_w,i32_w];rw [c46b0])|skip)
            by_cases c47 : t346 ≤ t374
            ·
             rw [if_pos c47] at H
             have c47b0 : decide (t346 ≤ t374) = true:=decide_eq_true c47
             clear c47
             replace H:=Option.bind_eq_some_iff.mp H
             obtain ⟨t376,A480,H⟩:=H
             replace H : (some t376) = some r:=H
             have A48:=A_ A480
             clear A480
             obtain rfl:=Option.some.inj H
             go_wp2_with (first|(go_at_call 15;(with_reducible refine (shapesearchlaw16_awake.calls kj14  t376 _ A48.out).mono ?_);rintro e w49 ⟨rfl,hb⟩;have n0_:=A_ (Kd.S_below (by (with_reducible repeat (first|apply sa_|apply sd_|apply se_));exact HO_3.out) hb);have n1_:=A_ (Kd.S_below (by (with_reducible repeat (first|apply sa_|apply sd_|apply se_));exact HO_4.out) hb);have n2_:=A_ (rw_ (by (with_reducible repeat (first|apply ra|apply rb|apply rc));exact HL372_0.out) hb);have n3_:=A_ (rw_ (by (with_reducible repeat (first|apply ra|apply rb|apply rc));exact HL373_0.out) hb);have n4_:=A_ (cl (by repeat (first|(with_reducible exact HR351.out)|(with_reducible refine ca ?_ _)|(with_reducible refine cb ?_ _)|(with_reducible refine cc ?_)|exact HR351.out)) hb);have n5_:=A_ (cl (by repeat (first|(with_reducible exact HR355.out)|(with_reducible refine ca ?_ _)|(with_reducible refine cb ?_ _)|(with_reducible refine cc ?_)|exact HR355.out)) hb);have n6_:=A_ (cl (by repeat (first|(with_reducible exact HR361.out)|(with_reducible refine ca ?_ _)|(with_reducible refine cb ?_ _)|(with_reducible refine cc ?_)|exact HR361.out)) hb);have n7_:=A_ (cl (by repeat (first|(with_reducible exact HR365.out)|(with_reducible refine ca ?_ _)|(with_reducible refine cb ?_ _)|(with_reducible refine cc ?_)|exact HR365.out)) hb);have n8_:=A_ (cl (by repeat (first|(with_reducible exact HR368_0.out)|(with_reducible refine ca ?_ _)|(with_reducible refine cb ?_ _)|(with_reducible refine cc ?_)|exact HR368_0.out)) hb);have n9_:=A_ (cl (by repeat (first|(with_reducible exact HR369_0.out)|(with_reducible refine ca ?_ _)|(with_reducible refine cb ?_ _)|(with_reducible refine cc ?_)|exact HR369_0.out)) hb);have n10_:=A_ (cl (by repeat (first|(with_reducible exact HR372_0.out)|(with_reducible refine ca ?_ _)|(with_reducible refine cb ?_ _)|(with_reducible refine cc ?_)|exact HR372_0.out)) hb);have n11_:=A_ (cl (by repeat (first|(with_reducible exact HR373_0.out)|(with_reducible refine ca ?_ _)|(with_reducible refine cb ?_ _)|(with_reducible refine cc ?_)|exact HR373_0.out)) hb);have n12_:=A_ (below_step (by repeat (first|(with_reducible first|exact HB.out|apply ba|apply bb|apply bc)|exact HB.out)) hb);clear HO_3;clear HO_4;clear HL372_0;clear HL373_0;clear HR351;clear HR355;clear HR361;clear HR365;clear HR368_0;clear HR369_0;clear HR372_0;clear HR373_0;clear HB;have HO_3:=n0_;have HO_4:=n1_;have HL372_0:=n2_;have HL373_0:=n3_;have HR351:=n4_;have HR355:=n5_;have HR361:=n6_;have HR365:=n7_;have HR368_0:=n8_;have HR369_0:=n9_;have HR372_0:=n10_;have HR373_0:=n11_;have HB:=n12_;clear n0_ n1_ n2_ n3_ n4_ n5_ n6_ n7_ n8_ n9_ n10_ n11_ n12_;(try clear hb);(try clear hb2);(try clear hk);(try clear hi)))
             go_ret
             exact ⟨by first|rfl|(simp [errW_none,errW_some] <;> rfl)|(simp [*,errW_none,errW_some] <;> rfl),by repeat (first|(with_reducible first|exact HB.out|apply ba|apply bb|apply bc)|exact HB.out)⟩
            ·
             rw [if_neg c47] at H
             have c47b0 : decide (t346 ≤ t374) = false:=decide_eq_false c47
             clear c47
             exact absurd ((Option.some.inj H).trans HTR_.out) (by decide)
           ·
            rw [if_neg c46] at H
            have c46b0 : (t375 == 0) = false:=beq_eq_false_iff_ne.mpr c46
            have c46b1 : (t375 != 0) = true:=bne_iff_ne.mpr c46
            (first|rw [c46b0]|(simp only [i64_w,i32_w];rw [c46b0])|skip)
            exact absurd ((Option.some.inj H).trans HTR_.out) (by decide)
          ·
           rw [if_neg c41] at H
           have c41b0 : (((rd_L1 t336 0).length : Int) == ((rd_L1 t339 0).length : Int)) = false:=beq_eq_false_iff_ne.mpr c41
           have c41b1 : (((rd_L1 t336 0).length : Int) != ((rd_L1 t339 0).length : Int)) = true:=bne_iff_ne.mpr c41
           have c41b2 : ((rd_L1 t336 0).length == (rd_L1 t339 0).length) = false:=by first|simpa using c41|(simp at c41 ⊢;omega)
           replace H:=Option.bind_eq_some_iff.mp H
           obtain ⟨t377,A500,H⟩:=H
           replace H : (some t377) = some r:=H
           have A50:=A_ A500
           clear A500
           obtain rfl:=Option.some.inj H
           try go_wp2
           have n0_:=A_ (Kd.S_drew HO_3.out)
           have n1_:=A_ (Kd.S_drew HO_4.out)
           have n2_:=A_ (Kd.C_drew HR351.out)
           have n3_:=A_ (Kd.C_drew HR355.out)
           have n4_:=A_ (Kd.C_drew HR361.out)
           have n5_:=A_ (Kd.C_drew HR365.out)
           have n6_:=A_ (Kd.C_drew HR368_0.out)
           have n7_:=A_ (Kd.C_drew HR369_0.out)
           have n8_:=A_ (below_drew1 HB.out)
           clear HO_3
           clear HO_4
           clear HR351
           clear HR355
           clear HR361
           clear HR365
           clear HR368_0
           clear HR369_0
           clear HB
           have HO_3:=n0_
           have HO_4:=n1_
           have HR351:=n2_
           have HR355:=n3_
           have HR361:=n4_
           have HR365:=n5_
           have HR368_0:=n6_
           have HR369_0:=n7_
           have HB:=n8_
           clear n0_ n1_ n2_ n3_ n4_ n5_ n6_ n7_ n8_
           have p372 : 0 ≤ (0 : Int):=(by omega)
           have q372 : 0 < (t336.length : Int):=of_decide_eq_true (by first|(with_reducible assumption)|assumption)
           obtain ⟨ad372,A372_0,c372_0,e372,hx372_0,hl372_0,hi372_0⟩:=at_L1 (Kd.S_reads' HO_3.out).2.2 0 p372 q372
           obtain rfl : ad368 = ad372:=(by injection e372)
           obtain ⟨ce372,hce372,hMe372,hcc372⟩:=Kd.S_get HO_3.out [] 0 p372 (by first|exact q372|exact of_decide_eq_true (by first|(with_reducible assumption)|assumption)|(have e_:=(Kd.S_reads' HO_3.out).1;omega))
           obtain ⟨ve372_0,rfl,ge372_0⟩:=hMe372
           have hv372_0:=hcc372 0 _ rfl
           rw [Nat.add_zero,show ((Kd.slice 3 (Kd.int .i64))).sz = 1 from rfl,Nat.mul_one] at hv372_0
           replace hv372_0:=Option.some.inj (hv372_0.symm.trans hx372_0)
           rw [hv372_0] at ge372_0
           have HL372_0:=A_ (show Kd.R (Kd.int .i64) 3 _ _ _ _ (rd_L1 t336 0) from ge372_0)
           clear hv372_0 ge372_0
           clear hcc372 hce372
           have qi372 : (0 < t336.length) = True:=eq_true (by omega)
           (try rw [show ((0 : Int)).toNat = 0 from rfl] at hx372_0)
           (try rw [Addr.add_zero'] at hx372_0)
           have HR372_0:=A_ hi372_0
           have HC372_0:=A_ hl372_0
           clear hi372_0 hl372_0
           replace p372:=eq_true p372
           replace q372:=eq_true q372
           have p373 : 0 ≤ (0 : Int):=(by omega)
           have q373 : 0 < (t339.length : Int):=of_decide_eq_true (by first|(with_reducible assumption)|assumption)
           obtain ⟨ad373,A373_0,c373_0,e373,hx373_0,hl373_0,hi373_0⟩:=at_L1 (Kd.S_reads' HO_4.out).2.2 0 p373 q373
           obtain rfl : ad369 = ad373:=(by injection e373)
           obtain ⟨ce373,hce373,hMe373,hcc373⟩:=Kd.S_get HO_4.out [] 0 p373 (by first|exact q373|exact of_decide_eq_true (by first|(with_reducible assumption)|assumption)|(have e_:=(Kd.S_reads' HO_4.out).1;omega))
           obtain ⟨ve373_0,rfl,ge373_0⟩:=hMe373
           have hv373_0:=hcc373 0 _ rfl
           rw [Nat.add_zero,show ((Kd.slice 3 (Kd.int .i64))).sz = 1 from rfl,Nat.mul_one] at hv373_0
           replace hv373_0:=Option.some.inj (hv373_0.symm.trans hx373_0)
           rw [hv373_0] at ge373_0
           have HL373_0:=A_ (show Kd.R (Kd.int .i64) 3 _ _ _ _ (rd_L1 t339 0) from ge373_0)
           clear hv373_0 ge373_0
           clear hcc373 hce373
           have qi373 : (0 < t339.length) = True:=eq_true (by omega)
           (try rw [show ((0 : Int)).toNat = 0 from rfl] at hx373_0)
           (try rw [Addr.add_zero'] at hx373_0)
           have HR373_0:=A_ hi373_0
           have HC373_0:=A_ hl373_0
           clear hi373_0 hl373_0
           replace p373:=eq_true p373
           replace q373:=eq_true q373
           refine start_ (n:=9) (S:=fun w'=>w'.cell? ad368 = some (.slice A372_0 (rd_L1 t336 0).length c372_0)∧w'.cell? ad369 = some (.slice A373_0 (rd_L1 t339 0).length c373_0)) (ds:=[]) #[false,false,false,false,false,false,false,false,false] (by kernel_rfl) rfl rfl ⟨hx372_0,hx373_0⟩ (fun hHeld=>?_);refine with_tabW shapesearchlaw16_ChannelsPaths.tab9 shapesearchlaw16_ChannelsPaths.bits9 (fun HT_ HW_=>?_)
           generalize wc.drew = w51 at HO_3 HO_4 HR351 HR355 HR361 HR365 HR368_0 HR369_0 HB HL372_0 HL373_0 HR372_0 HR373_0 hx372_0 hx373_0 hHeld ⊢
           refine pure_ (i:=0) (N:=some 97) (v:=?_) (a':=?_) #[true,false,false,false,false,false,false,false,false] rfl rfl (any_of HT_.out (by kernel_rfl)) (fun _ _ _ h=>h) (Or.inl ⟨by rfl,?_⟩) ?_ ?_
           rotate_left
           ·
            intro w'
            go_simp
            with_reducible rfl
           rotate_left
           ·
            simp only [Act.put,sa,sb,sc,i64_w,i32_w]
            rfl
           refine pure_ (i:=1) (N:=some 98) (v:=?_) (a':=?_) #[true,true,false,false,false,false,false,false,false] rfl rfl (any_of HT_.out (by kernel_rfl)) (fun _ _ _ h=>h) (Or.inl ⟨by rfl,?_⟩) ?_ ?_
           rotate_left
           ·
            intro w'
            go_simp
            with_reducible rfl
           rotate_left
           ·
            simp only [Act.put,sa,sb,sc,i64_w,i32_w]
            rfl
           refine pure_ (i:=4) (N:=some 101) (v:=?_) (a':=?_) #[true,true,false,false,true,false,false,false,false] rfl rfl (any_of HT_.out (by kernel_rfl)) (fun _ _ _ h=>h) (Or.inl ⟨by rfl,?_⟩) ?_ ?_
           rotate_left
           ·
            intro w'
            go_simp
            with_reducible rfl
           rotate_left
           ·
            simp only [Act.put,sa,sb,sc,i64_w,i32_w]
            rfl
           refine pure_ (i:=5) (N:=some 102) (v:=?_) (a':=?_) #[true,true,false,false,true,true,false,false,false] rfl rfl (any_of HT_.out (by kernel_rfl)) (fun _ _ _ h=>h) (Or.inl ⟨by rfl,?_⟩) ?_ ?_
           rotate_left
           ·
            intro w'
            go_simp
            with_reducible rfl
           rotate_left
           ·
            simp only [Act.put,sa,sb,sc,i64_w,i32_w]
            rfl
           refine take_ (i:=2) (N:=some 99) (v:=?_) (a':=?_) #[true,true,true,false,true,true,false,false,false] rfl rfl (take_ofW HT_.out HW_.out (by kernel_rfl)) (fun _ _ _ h=>h) (Or.inl ⟨by rfl,?_⟩) hHeld ?_ ?_
           rotate_left
           ·
            rintro w' ⟨s0,s1⟩
            go_simp
            with_reducible rfl
           rotate_left
           ·
            simp only [Act.put,sa,sb,sc,i64_w,i32_w]
            rfl
           refine pure_ (i:=3) (N:=some 100) (v:=?_) (a':=?_) #[true,true,true,true,true,true,false,false,false] rfl rfl (any_of HT_.out (by kernel_rfl)) (fun _ _ _ h=>h) (Or.inl ⟨by rfl,?_⟩) ?_ ?_
           rotate_left
           ·
            intro w'
            go_simp
            with_reducible rfl
           rotate_left
           ·
            simp only [Act.put,sa,sb,sc,i64_w,i32_w]
            rfl
           refine take_ (i:=6) (N:=some 103) (v:=?_) (a':=?_) #[true,true,true,true,true,true,true,false,false] rfl rfl (take_ofW HT_.out HW_.out (by kernel_rfl)) (fun _ _ _ h=>h) (Or.inl ⟨by rfl,?_⟩) hHeld ?_ ?_
           rotate_left
           ·
            rintro w' ⟨s0,s1⟩
            go_simp
            with_reducible rfl
           rotate_left
           ·
            simp only [Act.put,sa,sb,sc,i64_w,i32_w]
            rfl
           refine pure_ (i:=7) (N:=some 104) (v:=?_) (a':=?_) #[true,true,true,true,true,true,true,true,false] rfl rfl (any_of HT_.out (by kernel_rfl)) (fun _ _ _ h=>h) (Or.inl ⟨by rfl,?_⟩) ?_ ?_
           rotate_left
           ·
            intro w'
            go_simp
            with_reducible rfl
           rotate_left
           ·
            simp only [Act.put,sa,sb,sc,i64_w,i32_w]
            rfl
           refine pure_ (i:=8) (N:=some 105) (v:=?_) (a':=?_) #[true,true,true,true,true,true,true,true,true] rfl rfl (any_of HT_.out (by kernel_rfl)) (fun _ _ _ h=>h) (Or.inl ⟨by rfl,?_⟩) ?_ ?_
           rotate_left
           ·
            intro w'
            go_simp
            with_reducible rfl
           rotate_left
           ·
            simp only [Act.put,sa,sb,sc,i64_w,i32_w]
            rfl
           refine done_ (done_of HT_.out (by kernel_rfl)) ?_
           try go_wp2_with (first|((with_reducible refine gate_callee (f:=15) rfl ?_);refine goesL_ (some 122) rfl rfl Try.func15 (by kernel_rfl) rfl #[] rfl (by (try simp only [List.map_toArray,List.map_cons,List.map_nil]);first|done|rfl|(simp only [List.length_drop,List.length_take];rfl)|((try rw [KY23.out]);(try rw [KY24.out]);(try rw [KY27.out]);(try rw [KY28.out]);rfl)) ?_;(with_reducible refine (shapesearchlaw16_awake.calls kj14  t377 _ A50.out).mono ?_);rintro e w52 ⟨rfl,hb⟩;refine ⟨_,rfl,?_⟩;have n0_:=A_ (Kd.S_below (by (with_reducible repeat (first|apply sa_|apply sd_|apply se_));exact HO_3.out) hb);have n1_:=A_ (Kd.S_below (by (with_reducible repeat (first|apply sa_|apply sd_|apply se_));exact HO_4.out) hb);have n2_:=A_ (rw_ (by (with_reducible repeat (first|apply ra|apply rb|apply rc));exact HL372_0.out) hb);have n3_:=A_ (rw_ (by (with_reducible repeat (first|apply ra|apply rb|apply rc));exact HL373_0.out) hb);have n4_:=A_ (cl (by repeat (first|(with_reducible exact HR351.out)|(with_reducible refine ca ?_ _)|(with_reducible refine cb ?_ _)|(with_reducible refine cc ?_)|exact HR351.out)) hb);have n5_:=A_ (cl (by repeat (first|(with_reducible exact HR355.out)|(with_reducible refine ca ?_ _)|(with_reducible refine cb ?_ _)|(with_reducible refine cc ?_)|exact HR355.out)) hb);have n6_:=A_ (cl (by repeat (first|(with_reducible exact HR361.out)|(with_reducible refine ca ?_ _)|(with_reducible refine cb ?_ _)|(with_reducible refine cc ?_)|exact HR361.out)) hb);have n7_:=A_ (cl (by repeat (first|(with_reducible exact HR365.out)|(with_reducible refine ca ?_ _)|(with_reducible refine cb ?_ _)|(with_reducible refine cc ?_)|exact HR365.out)) hb);have n8_:=A_ (cl (by repeat (first|(with_reducible exact HR368_0.out)|(with_reducible refine ca ?_ _)|(with_reducible refine cb ?_ _)|(with_reducible refine cc ?_)|exact HR368_0.out)) hb);have n9_:=A_ (cl (by repeat (first|(with_reducible exact HR369_0.out)|(with_reducible refine ca ?_ _)|(with_reducible refine cb ?_ _)|(with_reducible refine cc ?_)|exact HR369_0.out)) hb);have n10_:=A_ (cl (by repeat (first|(with_reducible exact HR372_0.out)|(with_reducible refine ca ?_ _)|(with_reducible refine cb ?_ _)|(with_reducible refine cc ?_)|exact HR372_0.out)) hb);have n11_:=A_ (cl (by repeat (first|(with_reducible exact HR373_0.out)|(with_reducible refine ca ?_ _)|(with_reducible refine cb ?_ _)|(with_reducible refine cc ?_)|exact HR373_0.out)) hb);have n12_:=A_ (below_step (by repeat (first|(with_reducible first|exact HB.out|apply ba|apply bb|apply bc)|exact HB.out)) hb);clear HO_3;clear HO_4;clear HL372_0;clear HL373_0;clear HR351;clear HR355;clear HR361;clear HR365;clear HR368_0;clear HR369_0;clear HR372_0;clear HR373_0;clear HB;have HO_3:=n0_;have HO_4:=n1_;have HL372_0:=n2_;have HL373_0:=n3_;have HR351:=n4_;have HR355:=n5_;have HR361:=n6_;have HR365:=n7_;have HR368_0:=n8_;have HR369_0:=n9_;have HR372_0:=n10_;have HR373_0:=n11_;have HB:=n12_;clear n0_ n1_ n2_ n3_ n4_ n5_ n6_ n7_ n8_ n9_ n10_ n11_ n12_;(try clear hb);(try clear hb2);(try clear hk);(try clear hi)))
           go_ret
           exact ⟨by first|rfl|(simp [errW_none,errW_some] <;> rfl)|(simp [*,errW_none,errW_some] <;> rfl),by repeat (first|(with_reducible first|exact HB.out|apply ba|apply bb|apply bc)|exact HB.out)⟩
         ·
          rw [if_neg c40] at H
          exact absurd H (by simp)
        ·
         rw [if_neg c39] at H
         exact absurd H (by simp)
    ·
     rw [if_neg c13] at H
     exact absurd H (by simp)
   ·
    rw [if_neg c12] at H
    exact absurd H (by simp)
  ·
   rw [if_neg c7] at H
   exact absurd H (by simp)
 ·
  rw [if_neg c6] at H
  exact absurd H (by simp)

/-- THE ONE PURE STATEMENT of shapesearchlaw16_ChannelsPaths: yours. -/
def shapesearchlaw16_ChannelsPaths.Pure : Prop:=∀ (l0 : List Int),l0.length ≤ maxLen → l0.length * 8 ≤ 140737488351232 → (∀ x ∈ l0,(Lit.int .i64 x).wf = true) → ∃ k,shapesearchlaw16_ChannelsPaths.f k l0 = some true
theorem shapesearchlaw16_ChannelsPaths.walk (P : shapesearchlaw16_ChannelsPaths.Pure) (a0 : Option Addr) (len0 cap0 : Nat) (z0 : List Int) (w : World) (w0 : (a0 = none∧len0 = 0∧cap0 = 0∧z0 = []) ∨ ∃ x,a0 = some x∧len0 ≤ cap0∧cap0 ≤ maxLen∧z0.length = cap0∧(∀ i,i < z0.length → w.cell? (x.add i) = some (.int .i64 (z0.getD i 0)))∧∀ n ∈ z0,(Lit.int .i64 n).wf = true) (y0 : len0 * 8 ≤ 140737488351232) :
  Calls Try.prog 3 #[.slice a0 len0 cap0] w fun e w'=>e = .returned (.bool true)∧Below w.heap.size w w':=by
 obtain ⟨l0,rfl,hr0,hm0,hw0,hc0⟩:=ReadsInt.ofRowC w0
 obtain ⟨k,h⟩:=P l0 hm0 y0 hw0
 refine (shapesearchlaw16_ChannelsPaths.calls k _ _ l0 true w (Kd.C_of_reads (d:=(0 : Int)) (h1:=fun _=>rfl) hr0) hc0 h rfl).mono ?_
 rintro e w' ⟨rfl,hd⟩
 exact ⟨rfl,hd⟩

end Go.Proofs.Ytodipcfbgnljeaa.PChannelsPaths
