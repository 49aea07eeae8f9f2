/- This file proves, function by function, what the Go functions that one law uses compute; most of it was printed by a program (wip/tools of this session, over the kit's print). -/
import Derived.Test.YtodipcfbgnljeaaPChannelsOrderx0
import Derived.Test.YtodipcfbgnljeaaPChannelsOrderx1
import Derived.Test.YtodipcfbgnljeaaPChannelsOrderx2
import Derived.Test.YtodipcfbgnljeaaPChannelsOrderx4
import Derived.Test.YtodipcfbgnljeaaPChannelsOrderx5
import Derived.Test.YtodipcfbgnljeaaPChannelsOrderx6
import Derived.Test.YtodipcfbgnljeaaPChannelsOrderx8
namespace Go.Proofs.Ytodipcfbgnljeaa.PChannelsOrder
open Go.RowKit Go.Proofs.YtodipcfbgnljeaaW.PrintWords Go.Proofs.YtodipcfbgnljeaaW.PrintLast Go.Proofs.YtodipcfbgnljeaaW.PrintMore
attribute [local go_sem] max2_int min2_int max_two min_two max_three min_three max_four min_four   -- for this text's walks alone
set_option linter.unusedVariables false
set_option linter.unusedSimpArgs false

attribute [local go_sem high] eqA36
/-! ### shapesearchlaw16_ChannelsOrder: function 8 -/
def shapesearchlaw16_ChannelsOrder.j0 : Nat → List (List Int) → List (List Int) → List (List Int) → List (List Int) → Bool → Option (Bool)
 | 0,_,_,_,_,_=>none
 | k + 1,x5,x6,x9,x10,x108=>if x108 = true then (some false) else (if 0 < (x5.length : Int) then (if 0 < (x6.length : Int) then (if ((rd_L1 x5 0).length : Int) = ((rd_L1 x6 0).length : Int) then ((channels_Euclid.f k x5 x6).bind fun bt387=>((channels_Euclid.f k x9 x10).bind fun bt389=>((channels_Greatest.f k x5 x6).bind fun bt391=>((channels_Greatest.f k x9 x10).bind fun bt395=>(if bt387.2 = 0 then (if bt389.2 = 0 then (if bt387.1 = bt389.1 then (if bt391.2.2 = 0 then (if bt395.2.2 = 0 then (if (bt391.1 == bt395.1 && (bt391.2.1 == bt395.2.1)) = true then ((shapesearchlaw16_awake.f k).bind fun t399=>(some t399)) else (some false)) else (some false)) else (some false)) else (some false)) else (some false)) else (some false)))))) else ((shapesearchlaw16_awake.f k).bind fun t400=>(some t400))) else (none)) else (none))
def shapesearchlaw16_ChannelsOrder.f (k : Nat) (l0 : List Int) (a1 : Int) : Option (Bool):=(shapesearchkeep_New.f l0).bind fun bt328=>((shapesearchlaw16_bundles.f k bt328.1 bt328.2).bind fun bt331=>(if (bt331.1.length : Int) = 0 then (none) else ((some (([] : List (List Int)) : List (List Int))).bind fun y339=>(if 0 ≤ (Int.tmod (wrap64 (a1)) (bt331.1.length : Int)) then (if (Int.tmod (wrap64 (a1)) (bt331.1.length : Int)) ≤ (bt331.1.length : Int) then ((some (bt331.1.drop ((Int.tmod (wrap64 (a1)) (bt331.1.length : Int)) : Int).toNat : List (List Int))).bind fun y342=>(if y339.length + y342.length < 5864062014805 then ((some (y339 ++ y342 : List (List Int))).bind fun y347=>((some (bt331.1.take ((Int.tmod (wrap64 (a1)) (bt331.1.length : Int)) : Int).toNat : List (List Int))).bind fun y350=>(if y347.length + y350.length < 5864062014805 then ((some (y347 ++ y350 : List (List Int))).bind fun y355=>((some (([] : List (List Int)) : List (List Int))).bind fun y358=>(if (Int.tmod (wrap64 (a1)) (bt331.1.length : Int)) ≤ (bt331.2.1.length : Int) then ((some (bt331.2.1.drop ((Int.tmod (wrap64 (a1)) (bt331.1.length : Int)) : Int).toNat : List (List Int))).bind fun y361=>(if y358.length + y361.length < 5864062014805 then ((some (y358 ++ y361 : List (List Int))).bind fun y366=>((some (bt331.2.1.take ((Int.tmod (wrap64 (a1)) (bt331.1.length : Int)) : Int).toNat : List (List Int))).bind fun y369=>(if y366.length + y369.length < 5864062014805 then ((some (y366 ++ y369 : List (List Int))).bind fun y374=>((channels_Apart.f k bt331.1 bt331.2.1 bt331.2.2.1).bind fun bt377=>((channels_Apart.f k y355 y374 bt331.2.2.1).bind fun bt379=>((channels_Together.f k bt331.1 bt331.2.1 bt331.2.2.1).bind fun bt381=>((channels_Together.f k y355 y374 bt331.2.2.1).bind fun bt383=>(if bt377.2 = 0 then (if bt379.2 = 0 then (if bt381.2 = 0 then (if bt383.2 = 0 then (if bt377.1 = bt379.1 then (shapesearchlaw16_ChannelsOrder.j0 k bt331.1 bt331.2.1 y355 y374 (bt381.1 != bt383.1)) else (shapesearchlaw16_ChannelsOrder.j0 k bt331.1 bt331.2.1 y355 y374 true)) else (shapesearchlaw16_ChannelsOrder.j0 k bt331.1 bt331.2.1 y355 y374 true)) else (shapesearchlaw16_ChannelsOrder.j0 k bt331.1 bt331.2.1 y355 y374 true)) else (shapesearchlaw16_ChannelsOrder.j0 k bt331.1 bt331.2.1 y355 y374 true)) else (shapesearchlaw16_ChannelsOrder.j0 k bt331.1 bt331.2.1 y355 y374 true))))))) else (none)))) else (none))) else (none)))) else (none)))) else (none))) else (none)) else (none)))))
theorem shapesearchlaw16_ChannelsOrder.mono_l : ∀ k,(∀ y0 y1 y2 y3 y4,LeO (shapesearchlaw16_ChannelsOrder.j0 k y0 y1 y2 y3 y4) (shapesearchlaw16_ChannelsOrder.j0 (k + 1) y0 y1 y2 y3 y4))
 | 0=>fun _ _ _ _ _ r h=>by simp [shapesearchlaw16_ChannelsOrder.j0] at h
 | k + 1=>by
  have ih0:=shapesearchlaw16_ChannelsOrder.mono_l k
  ·
   intro y0 y1 y2 y3 y4
   unfold shapesearchlaw16_ChannelsOrder.j0
   repeat' first
   | (with_reducible exact ih0 _ _ _ _ _)
   | (with_reducible exact channels_Apart.mono _ _ _ _)
   | (with_reducible exact channels_Euclid.mono _ _ _)
   | (with_reducible exact channels_Greatest.mono _ _ _)
   | (with_reducible exact channels_Together.mono _ _ _ _)
   | (with_reducible exact shapesearchlaw16_awake.mono _)
   | (with_reducible exact shapesearchlaw16_bundles.mono _ _ _)
   | (with_reducible exact LeO.refl _)
   | (with_reducible exact LeO.none _)
   | (with_reducible refine LeO.ite ?_ ?_)
   | (with_reducible refine LeO.bind ?_ (fun _=>?_))
   | exact ih0 _ _ _ _ _
   | exact channels_Apart.mono _ _ _ _
   | exact channels_Euclid.mono _ _ _
   | exact channels_Greatest.mono _ _ _
   | exact channels_Together.mono _ _ _ _
   | exact shapesearchlaw16_awake.mono _
   | exact shapesearchlaw16_bundles.mono _ _ _
   | exact LeO.none _
   | refine LeO.ite ?_ ?_
   | refine LeO.bind ?_ (fun _=>?_)
theorem shapesearchlaw16_ChannelsOrder.mono : ∀ a0 a1 k,LeO (shapesearchlaw16_ChannelsOrder.f k a0 a1) (shapesearchlaw16_ChannelsOrder.f (k + 1) a0 a1):=by
 intro a0 a1 k
 have ih0:=shapesearchlaw16_ChannelsOrder.mono_l k
 unfold shapesearchlaw16_ChannelsOrder.f
 repeat' first
   | (with_reducible exact ih0 _ _ _ _ _)
   | (with_reducible exact channels_Apart.mono _ _ _ _)
   | (with_reducible exact channels_Euclid.mono _ _ _)
   | (with_reducible exact channels_Greatest.mono _ _ _)
   | (with_reducible exact channels_Together.mono _ _ _ _)
   | (with_reducible exact shapesearchlaw16_awake.mono _)
   | (with_reducible exact shapesearchlaw16_bundles.mono _ _ _)
   | (with_reducible exact LeO.refl _)
   | (with_reducible exact LeO.none _)
   | (with_reducible refine LeO.ite ?_ ?_)
   | (with_reducible refine LeO.bind ?_ (fun _=>?_))
   | exact ih0 _ _ _ _ _
   | exact channels_Apart.mono _ _ _ _
   | exact channels_Euclid.mono _ _ _
   | exact channels_Greatest.mono _ _ _
   | exact channels_Together.mono _ _ _ _
   | exact shapesearchlaw16_awake.mono _
   | exact shapesearchlaw16_bundles.mono _ _ _
   | exact LeO.none _
   | refine LeO.ite ?_ ?_
   | refine LeO.bind ?_ (fun _=>?_)
def shapesearchlaw16_ChannelsOrder.T3 : Bool × List (List Nat × List Nat):=(true,[([],[]),([],[]),([],[]),([1,2],[1,2]),([0,3],[0,3]),([],[]),([],[]),([5,6],[5,6]),([4,7,4],[4,7]),([],[]),([],[]),([],[]),([10,11],[10,11]),([9,12,8],[9,12]),([],[]),([],[]),([14,15],[14,15]),([13,16,13],[13,16]),([8,17,0,1,2,3,4,5,6,7,8],[8]),([17,18,0,1,2,3,4,5,6,7,8,9,10,11,12,13,14,15,16,17,18],[17])])
def shapesearchlaw16_ChannelsOrder.B3 : List Nat:=[0,0,0,6,15,0,0,96,255,0,0,0,3072,8191,0,0,49152,131071,262143,524287]
theorem shapesearchlaw16_ChannelsOrder.tab3 : rtab .any (opsOf Try.f8 3) = shapesearchlaw16_ChannelsOrder.T3:=by kernel_rfl
theorem shapesearchlaw16_ChannelsOrder.bits3 : waitsOk shapesearchlaw16_ChannelsOrder.T3.2 shapesearchlaw16_ChannelsOrder.B3 = true:=by kernel_rfl
def shapesearchlaw16_ChannelsOrder.T10 : Bool × List (List Nat × List Nat):=(true,[([],[]),([0],[0]),([1],[1]),([2],[2]),([],[]),([4],[4]),([5],[5]),([6],[6]),([3,7],[3,7])])
def shapesearchlaw16_ChannelsOrder.B10 : List Nat:=[0,1,3,7,0,16,48,112,255]
theorem shapesearchlaw16_ChannelsOrder.tab10 : rtab .any (opsOf Try.f8 10) = shapesearchlaw16_ChannelsOrder.T10:=by kernel_rfl
theorem shapesearchlaw16_ChannelsOrder.bits10 : waitsOk shapesearchlaw16_ChannelsOrder.T10.2 shapesearchlaw16_ChannelsOrder.B10 = true:=by kernel_rfl
set_option maxHeartbeats 8000000 in
set_option maxRecDepth 100000 in
theorem shapesearchlaw16_ChannelsOrder.calls (k : Nat) (A0 : Option Addr) (c0 : Nat) (l0 : List Int) (a1 : Int) (r : Bool) (w : World) (hr0 : Kd.C (Kd.int .i64) w A0 l0.length l0) (hc0 : l0.length ≤ c0) (h : shapesearchlaw16_ChannelsOrder.f k l0 a1 = some r) (hT_ : r = true) :
  Calls Try.prog 8 #[.slice A0 l0.length c0,.int .u8 a1] w fun e w'=>e = .returned (.bool r)∧Below w.heap.size w w':=by
 have HTR_:=A_ hT_
 clear hT_
 have hu36:=Try.underlying36
 have HR0:=A_ hr0
 have HC0:=A_ hc0
 clear hr0 hc0
 have HB:=A_ (Below.refl w.heap.size w)
 have H : ((shapesearchkeep_New.f l0).bind fun bt328=>((shapesearchlaw16_bundles.f k bt328.1 bt328.2).bind fun bt331=>(if (bt331.1.length : Int) = 0 then (none) else ((some (([] : List (List Int)) : List (List Int))).bind fun y339=>(if 0 ≤ (Int.tmod (wrap64 (a1)) (bt331.1.length : Int)) then (if (Int.tmod (wrap64 (a1)) (bt331.1.length : Int)) ≤ (bt331.1.length : Int) then ((some (bt331.1.drop ((Int.tmod (wrap64 (a1)) (bt331.1.length : Int)) : Int).toNat : List (List Int))).bind fun y342=>(if y339.length + y342.length < 5864062014805 then ((some (y339 ++ y342 : List (List Int))).bind fun y347=>((some (bt331.1.take ((Int.tmod (wrap64 (a1)) (bt331.1.length : Int)) : Int).toNat : List (List Int))).bind fun y350=>(if y347.length + y350.length < 5864062014805 then ((some (y347 ++ y350 : List (List Int))).bind fun y355=>((some (([] : List (List Int)) : List (List Int))).bind fun y358=>(if (Int.tmod (wrap64 (a1)) (bt331.1.length : Int)) ≤ (bt331.2.1.length : Int) then ((some (bt331.2.1.drop ((Int.tmod (wrap64 (a1)) (bt331.1.length : Int)) : Int).toNat : List (List Int))).bind fun y361=>(if y358.length + y361.length < 5864062014805 then ((some (y358 ++ y361 : List (List Int))).bind fun y366=>((some (bt331.2.1.take ((Int.tmod (wrap64 (a1)) (bt331.1.length : Int)) : Int).toNat : List (List Int))).bind fun y369=>(if y366.length + y369.length < 5864062014805 then ((some (y366 ++ y369 : List (List Int))).bind fun y374=>((channels_Apart.f k bt331.1 bt331.2.1 bt331.2.2.1).bind fun bt377=>((channels_Apart.f k y355 y374 bt331.2.2.1).bind fun bt379=>((channels_Together.f k bt331.1 bt331.2.1 bt331.2.2.1).bind fun bt381=>((channels_Together.f k y355 y374 bt331.2.2.1).bind fun bt383=>(if bt377.2 = 0 then (if bt379.2 = 0 then (if bt381.2 = 0 then (if bt383.2 = 0 then (if bt377.1 = bt379.1 then (shapesearchlaw16_ChannelsOrder.j0 k bt331.1 bt331.2.1 y355 y374 (bt381.1 != bt383.1)) else (shapesearchlaw16_ChannelsOrder.j0 k bt331.1 bt331.2.1 y355 y374 true)) else (shapesearchlaw16_ChannelsOrder.j0 k bt331.1 bt331.2.1 y355 y374 true)) else (shapesearchlaw16_ChannelsOrder.j0 k bt331.1 bt331.2.1 y355 y374 true)) else (shapesearchlaw16_ChannelsOrder.j0 k bt331.1 bt331.2.1 y355 y374 true)) else (shapesearchlaw16_ChannelsOrder.j0 k bt331.1 bt331.2.1 y355 y374 true))))))) else (none)))) else (none))) else (none)))) else (none)))) else (none))) else (none)) else (none)))))) = some r:=h
 clear h
 replace H:=Option.bind_eq_some_iff.mp H
 obtain ⟨⟨t328,t329⟩,A30,H⟩:=H
 replace H : ((shapesearchlaw16_bundles.f k t328 t329).bind fun bt331=>(if (bt331.1.length : Int) = 0 then (none) else ((some (([] : List (List Int)) : List (List Int))).bind fun y339=>(if 0 ≤ (Int.tmod (wrap64 (a1)) (bt331.1.length : Int)) then (if (Int.tmod (wrap64 (a1)) (bt331.1.length : Int)) ≤ (bt331.1.length : Int) then ((some (bt331.1.drop ((Int.tmod (wrap64 (a1)) (bt331.1.length : Int)) : Int).toNat : List (List Int))).bind fun y342=>(if y339.length + y342.length < 5864062014805 then ((some (y339 ++ y342 : List (List Int))).bind fun y347=>((some (bt331.1.take ((Int.tmod (wrap64 (a1)) (bt331.1.length : Int)) : Int).toNat : List (List Int))).bind fun y350=>(if y347.length + y350.length < 5864062014805 then ((some (y347 ++ y350 : List (List Int))).bind fun y355=>((some (([] : List (List Int)) : List (List Int))).bind fun y358=>(if (Int.tmod (wrap64 (a1)) (bt331.1.length : Int)) ≤ (bt331.2.1.length : Int) then ((some (bt331.2.1.drop ((Int.tmod (wrap64 (a1)) (bt331.1.length : Int)) : Int).toNat : List (List Int))).bind fun y361=>(if y358.length + y361.length < 5864062014805 then ((some (y358 ++ y361 : List (List Int))).bind fun y366=>((some (bt331.2.1.take ((Int.tmod (wrap64 (a1)) (bt331.1.length : Int)) : Int).toNat : List (List Int))).bind fun y369=>(if y366.length + y369.length < 5864062014805 then ((some (y366 ++ y369 : List (List Int))).bind fun y374=>((channels_Apart.f k bt331.1 bt331.2.1 bt331.2.2.1).bind fun bt377=>((channels_Apart.f k y355 y374 bt331.2.2.1).bind fun bt379=>((channels_Together.f k bt331.1 bt331.2.1 bt331.2.2.1).bind fun bt381=>((channels_Together.f k y355 y374 bt331.2.2.1).bind fun bt383=>(if bt377.2 = 0 then (if bt379.2 = 0 then (if bt381.2 = 0 then (if bt383.2 = 0 then (if bt377.1 = bt379.1 then (shapesearchlaw16_ChannelsOrder.j0 k bt331.1 bt331.2.1 y355 y374 (bt381.1 != bt383.1)) else (shapesearchlaw16_ChannelsOrder.j0 k bt331.1 bt331.2.1 y355 y374 true)) else (shapesearchlaw16_ChannelsOrder.j0 k bt331.1 bt331.2.1 y355 y374 true)) else (shapesearchlaw16_ChannelsOrder.j0 k bt331.1 bt331.2.1 y355 y374 true)) else (shapesearchlaw16_ChannelsOrder.j0 k bt331.1 bt331.2.1 y355 y374 true)) else (shapesearchlaw16_ChannelsOrder.j0 k bt331.1 bt331.2.1 y355 y374 true))))))) else (none)))) else (none))) else (none)))) else (none)))) else (none))) else (none)) else (none))))) = some r:=H
 have A3:=A_ A30
 clear A30
 replace H:=Option.bind_eq_some_iff.mp H
 obtain ⟨⟨t331,t334,t337,t338⟩,A40,H⟩:=H
 replace H : (if (t331.length : Int) = 0 then (none) else ((some (([] : List (List Int)) : List (List Int))).bind fun y339=>(if 0 ≤ (Int.tmod (wrap64 (a1)) (t331.length : Int)) then (if (Int.tmod (wrap64 (a1)) (t331.length : Int)) ≤ (t331.length : Int) then ((some (t331.drop ((Int.tmod (wrap64 (a1)) (t331.length : Int)) : Int).toNat : List (List Int))).bind fun y342=>(if y339.length + y342.length < 5864062014805 then ((some (y339 ++ y342 : List (List Int))).bind fun y347=>((some (t331.take ((Int.tmod (wrap64 (a1)) (t331.length : Int)) : Int).toNat : List (List Int))).bind fun y350=>(if y347.length + y350.length < 5864062014805 then ((some (y347 ++ y350 : List (List Int))).bind fun y355=>((some (([] : List (List Int)) : List (List Int))).bind fun y358=>(if (Int.tmod (wrap64 (a1)) (t331.length : Int)) ≤ (t334.length : Int) then ((some (t334.drop ((Int.tmod (wrap64 (a1)) (t331.length : Int)) : Int).toNat : List (List Int))).bind fun y361=>(if y358.length + y361.length < 5864062014805 then ((some (y358 ++ y361 : List (List Int))).bind fun y366=>((some (t334.take ((Int.tmod (wrap64 (a1)) (t331.length : Int)) : Int).toNat : List (List Int))).bind fun y369=>(if y366.length + y369.length < 5864062014805 then ((some (y366 ++ y369 : List (List Int))).bind fun y374=>((channels_Apart.f k t331 t334 t337).bind fun bt377=>((channels_Apart.f k y355 y374 t337).bind fun bt379=>((channels_Together.f k t331 t334 t337).bind fun bt381=>((channels_Together.f k y355 y374 t337).bind fun bt383=>(if bt377.2 = 0 then (if bt379.2 = 0 then (if bt381.2 = 0 then (if bt383.2 = 0 then (if bt377.1 = bt379.1 then (shapesearchlaw16_ChannelsOrder.j0 k t331 t334 y355 y374 (bt381.1 != bt383.1)) else (shapesearchlaw16_ChannelsOrder.j0 k t331 t334 y355 y374 true)) else (shapesearchlaw16_ChannelsOrder.j0 k t331 t334 y355 y374 true)) else (shapesearchlaw16_ChannelsOrder.j0 k t331 t334 y355 y374 true)) else (shapesearchlaw16_ChannelsOrder.j0 k t331 t334 y355 y374 true)) else (shapesearchlaw16_ChannelsOrder.j0 k t331 t334 y355 y374 true))))))) else (none)))) else (none))) else (none)))) else (none)))) else (none))) else (none)) else (none)))) = some r:=H
 have A4:=A_ A40
 clear A40
 by_cases c5 : (t331.length : Int) = 0
 ·
  rw [if_pos c5] at H
  exact absurd H (by simp)
 ·
  rw [if_neg c5] at H
  have c5b0 : ((t331.length : Int) == 0) = false:=beq_eq_false_iff_ne.mpr c5
  have c5b1 : ((t331.length : Int) != 0) = true:=bne_iff_ne.mpr c5
  have c5b2 : ¬ (t331 = []):=fun h_=>c5 (by rw [h_];rfl)
  obtain ⟨y339,hy339⟩ : ∃ y_ : List (List Int),y_ = (([] : List (List Int))):=⟨_,rfl⟩
  replace H : (if 0 ≤ (Int.tmod (wrap64 (a1)) (t331.length : Int)) then (if (Int.tmod (wrap64 (a1)) (t331.length : Int)) ≤ (t331.length : Int) then ((some (t331.drop ((Int.tmod (wrap64 (a1)) (t331.length : Int)) : Int).toNat : List (List Int))).bind fun y342=>(if y339.length + y342.length < 5864062014805 then ((some (y339 ++ y342 : List (List Int))).bind fun y347=>((some (t331.take ((Int.tmod (wrap64 (a1)) (t331.length : Int)) : Int).toNat : List (List Int))).bind fun y350=>(if y347.length + y350.length < 5864062014805 then ((some (y347 ++ y350 : List (List Int))).bind fun y355=>((some (([] : List (List Int)) : List (List Int))).bind fun y358=>(if (Int.tmod (wrap64 (a1)) (t331.length : Int)) ≤ (t334.length : Int) then ((some (t334.drop ((Int.tmod (wrap64 (a1)) (t331.length : Int)) : Int).toNat : List (List Int))).bind fun y361=>(if y358.length + y361.length < 5864062014805 then ((some (y358 ++ y361 : List (List Int))).bind fun y366=>((some (t334.take ((Int.tmod (wrap64 (a1)) (t331.length : Int)) : Int).toNat : List (List Int))).bind fun y369=>(if y366.length + y369.length < 5864062014805 then ((some (y366 ++ y369 : List (List Int))).bind fun y374=>((channels_Apart.f k t331 t334 t337).bind fun bt377=>((channels_Apart.f k y355 y374 t337).bind fun bt379=>((channels_Together.f k t331 t334 t337).bind fun bt381=>((channels_Together.f k y355 y374 t337).bind fun bt383=>(if bt377.2 = 0 then (if bt379.2 = 0 then (if bt381.2 = 0 then (if bt383.2 = 0 then (if bt377.1 = bt379.1 then (shapesearchlaw16_ChannelsOrder.j0 k t331 t334 y355 y374 (bt381.1 != bt383.1)) else (shapesearchlaw16_ChannelsOrder.j0 k t331 t334 y355 y374 true)) else (shapesearchlaw16_ChannelsOrder.j0 k t331 t334 y355 y374 true)) else (shapesearchlaw16_ChannelsOrder.j0 k t331 t334 y355 y374 true)) else (shapesearchlaw16_ChannelsOrder.j0 k t331 t334 y355 y374 true)) else (shapesearchlaw16_ChannelsOrder.j0 k t331 t334 y355 y374 true))))))) else (none)))) else (none))) else (none)))) else (none)))) else (none))) else (none)) else (none)) = some r:=by first|(rw [hy339];with_reducible exact H)|(have H2_:=(Option.bind_some _ _).symm.trans H;rw [hy339];with_reducible exact H2_)|(have H2_:=(Option.bind_some _ _).symm.trans H;with_reducible exact H2_)|with_reducible exact H|(rw [hy339];exact H)|exact H
  have Ny339:=A_ hy339
  clear hy339
  obtain ⟨ji6,hji6⟩ : ∃ j_ : Int,(Int.tmod (wrap64 (a1)) (t331.length : Int)) = j_:=⟨_,rfl⟩
  replace H : (if 0 ≤ (ji6) then (if (ji6) ≤ (t331.length : Int) then ((some (t331.drop ((ji6) : Int).toNat : List (List Int))).bind fun y342=>(if y339.length + y342.length < 5864062014805 then ((some (y339 ++ y342 : List (List Int))).bind fun y347=>((some (t331.take ((ji6) : Int).toNat : List (List Int))).bind fun y350=>(if y347.length + y350.length < 5864062014805 then ((some (y347 ++ y350 : List (List Int))).bind fun y355=>((some (([] : List (List Int)) : List (List Int))).bind fun y358=>(if (ji6) ≤ (t334.length : Int) then ((some (t334.drop ((ji6) : Int).toNat : List (List Int))).bind fun y361=>(if y358.length + y361.length < 5864062014805 then ((some (y358 ++ y361 : List (List Int))).bind fun y366=>((some (t334.take ((ji6) : Int).toNat : List (List Int))).bind fun y369=>(if y366.length + y369.length < 5864062014805 then ((some (y366 ++ y369 : List (List Int))).bind fun y374=>((channels_Apart.f k t331 t334 t337).bind fun bt377=>((channels_Apart.f k y355 y374 t337).bind fun bt379=>((channels_Together.f k t331 t334 t337).bind fun bt381=>((channels_Together.f k y355 y374 t337).bind fun bt383=>(if bt377.2 = 0 then (if bt379.2 = 0 then (if bt381.2 = 0 then (if bt383.2 = 0 then (if bt377.1 = bt379.1 then (shapesearchlaw16_ChannelsOrder.j0 k t331 t334 y355 y374 (bt381.1 != bt383.1)) else (shapesearchlaw16_ChannelsOrder.j0 k t331 t334 y355 y374 true)) else (shapesearchlaw16_ChannelsOrder.j0 k t331 t334 y355 y374 true)) else (shapesearchlaw16_ChannelsOrder.j0 k t331 t334 y355 y374 true)) else (shapesearchlaw16_ChannelsOrder.j0 k t331 t334 y355 y374 true)) else (shapesearchlaw16_ChannelsOrder.j0 k t331 t334 y355 y374 true))))))) else (none)))) else (none))) else (none)))) else (none)))) else (none))) else (none)) else (none)) = some r:=by first|(rw [hji6] at H;exact H)|(simp only [hji6] at H ⊢;exact H)
  (try rw [hji6] at A3)
  (try rw [hji6] at A4)
  by_cases c7 : 0 ≤ (ji6)
  ·
   rw [if_pos c7] at H
   have c7b0:=eq_true c7
   have c7b1 : decide (0 ≤ (ji6)) = true:=decide_eq_true c7
   clear c7
   by_cases c8 : (ji6) ≤ (t331.length : Int)
   ·
    rw [if_pos c8] at H
    have c8b0:=eq_true c8
    have c8b1 : decide ((ji6) ≤ (t331.length : Int)) = true:=decide_eq_true c8
    clear c8
    obtain ⟨y342,hy342⟩ : ∃ y_ : List (List Int),y_ = (t331.drop ((ji6) : Int).toNat):=⟨_,rfl⟩
    replace H : (if y339.length + y342.length < 5864062014805 then ((some (y339 ++ y342 : List (List Int))).bind fun y347=>((some (t331.take ((ji6) : Int).toNat : List (List Int))).bind fun y350=>(if y347.length + y350.length < 5864062014805 then ((some (y347 ++ y350 : List (List Int))).bind fun y355=>((some (([] : List (List Int)) : List (List Int))).bind fun y358=>(if (ji6) ≤ (t334.length : Int) then ((some (t334.drop ((ji6) : Int).toNat : List (List Int))).bind fun y361=>(if y358.length + y361.length < 5864062014805 then ((some (y358 ++ y361 : List (List Int))).bind fun y366=>((some (t334.take ((ji6) : Int).toNat : List (List Int))).bind fun y369=>(if y366.length + y369.length < 5864062014805 then ((some (y366 ++ y369 : List (List Int))).bind fun y374=>((channels_Apart.f k t331 t334 t337).bind fun bt377=>((channels_Apart.f k y355 y374 t337).bind fun bt379=>((channels_Together.f k t331 t334 t337).bind fun bt381=>((channels_Together.f k y355 y374 t337).bind fun bt383=>(if bt377.2 = 0 then (if bt379.2 = 0 then (if bt381.2 = 0 then (if bt383.2 = 0 then (if bt377.1 = bt379.1 then (shapesearchlaw16_ChannelsOrder.j0 k t331 t334 y355 y374 (bt381.1 != bt383.1)) else (shapesearchlaw16_ChannelsOrder.j0 k t331 t334 y355 y374 true)) else (shapesearchlaw16_ChannelsOrder.j0 k t331 t334 y355 y374 true)) else (shapesearchlaw16_ChannelsOrder.j0 k t331 t334 y355 y374 true)) else (shapesearchlaw16_ChannelsOrder.j0 k t331 t334 y355 y374 true)) else (shapesearchlaw16_ChannelsOrder.j0 k t331 t334 y355 y374 true))))))) else (none)))) else (none))) else (none)))) else (none)))) else (none)) = some r:=by first|(rw [hy342];with_reducible exact H)|(have H2_:=(Option.bind_some _ _).symm.trans H;rw [hy342];with_reducible exact H2_)|(have H2_:=(Option.bind_some _ _).symm.trans H;with_reducible exact H2_)|with_reducible exact H|(rw [hy342];exact H)|exact H
    have Ny342:=A_ hy342
    clear hy342
    by_cases c9 : y339.length + y342.length < 5864062014805
    ·
     rw [if_pos c9] at H
     have LMc9:=A_ c9
     clear c9
     obtain ⟨y347,hy347⟩ : ∃ y_ : List (List Int),y_ = (y339 ++ y342):=⟨_,rfl⟩
     replace H : ((some (t331.take ((ji6) : Int).toNat : List (List Int))).bind fun y350=>(if y347.length + y350.length < 5864062014805 then ((some (y347 ++ y350 : List (List Int))).bind fun y355=>((some (([] : List (List Int)) : List (List Int))).bind fun y358=>(if (ji6) ≤ (t334.length : Int) then ((some (t334.drop ((ji6) : Int).toNat : List (List Int))).bind fun y361=>(if y358.length + y361.length < 5864062014805 then ((some (y358 ++ y361 : List (List Int))).bind fun y366=>((some (t334.take ((ji6) : Int).toNat : List (List Int))).bind fun y369=>(if y366.length + y369.length < 5864062014805 then ((some (y366 ++ y369 : List (List Int))).bind fun y374=>((channels_Apart.f k t331 t334 t337).bind fun bt377=>((channels_Apart.f k y355 y374 t337).bind fun bt379=>((channels_Together.f k t331 t334 t337).bind fun bt381=>((channels_Together.f k y355 y374 t337).bind fun bt383=>(if bt377.2 = 0 then (if bt379.2 = 0 then (if bt381.2 = 0 then (if bt383.2 = 0 then (if bt377.1 = bt379.1 then (shapesearchlaw16_ChannelsOrder.j0 k t331 t334 y355 y374 (bt381.1 != bt383.1)) else (shapesearchlaw16_ChannelsOrder.j0 k t331 t334 y355 y374 true)) else (shapesearchlaw16_ChannelsOrder.j0 k t331 t334 y355 y374 true)) else (shapesearchlaw16_ChannelsOrder.j0 k t331 t334 y355 y374 true)) else (shapesearchlaw16_ChannelsOrder.j0 k t331 t334 y355 y374 true)) else (shapesearchlaw16_ChannelsOrder.j0 k t331 t334 y355 y374 true))))))) else (none)))) else (none))) else (none)))) else (none))) = some r:=by first|(rw [hy347];with_reducible exact H)|(have H2_:=(Option.bind_some _ _).symm.trans H;rw [hy347];with_reducible exact H2_)|(have H2_:=(Option.bind_some _ _).symm.trans H;with_reducible exact H2_)|with_reducible exact H|(rw [hy347];exact H)|exact H
     have Ny347:=A_ hy347
     clear hy347
     have c10b0:=eq_true (of_decide_eq_true (by first|(with_reducible assumption)|assumption) : 0 ≤ (ji6))
     have c11b0:=eq_true (of_decide_eq_true (by first|(with_reducible assumption)|assumption) : (ji6) ≤ (t331.length : Int))
     obtain ⟨y350,hy350⟩ : ∃ y_ : List (List Int),y_ = (t331.take ((ji6) : Int).toNat):=⟨_,rfl⟩
     replace H : (if y347.length + y350.length < 5864062014805 then ((some (y347 ++ y350 : List (List Int))).bind fun y355=>((some (([] : List (List Int)) : List (List Int))).bind fun y358=>(if (ji6) ≤ (t334.length : Int) then ((some (t334.drop ((ji6) : Int).toNat : List (List Int))).bind fun y361=>(if y358.length + y361.length < 5864062014805 then ((some (y358 ++ y361 : List (List Int))).bind fun y366=>((some (t334.take ((ji6) : Int).toNat : List (List Int))).bind fun y369=>(if y366.length + y369.length < 5864062014805 then ((some (y366 ++ y369 : List (List Int))).bind fun y374=>((channels_Apart.f k t331 t334 t337).bind fun bt377=>((channels_Apart.f k y355 y374 t337).bind fun bt379=>((channels_Together.f k t331 t334 t337).bind fun bt381=>((channels_Together.f k y355 y374 t337).bind fun bt383=>(if bt377.2 = 0 then (if bt379.2 = 0 then (if bt381.2 = 0 then (if bt383.2 = 0 then (if bt377.1 = bt379.1 then (shapesearchlaw16_ChannelsOrder.j0 k t331 t334 y355 y374 (bt381.1 != bt383.1)) else (shapesearchlaw16_ChannelsOrder.j0 k t331 t334 y355 y374 true)) else (shapesearchlaw16_ChannelsOrder.j0 k t331 t334 y355 y374 true)) else (shapesearchlaw16_ChannelsOrder.j0 k t331 t334 y355 y374 true)) else (shapesearchlaw16_ChannelsOrder.j0 k t331 t334 y355 y374 true)) else (shapesearchlaw16_ChannelsOrder.j0 k t331 t334 y355 y374 true))))))) else (none)))) else (none))) else (none)))) else (none)) = some r:=by first|(rw [hy350];with_reducible exact H)|(have H2_:=(Option.bind_some _ _).symm.trans H;rw [hy350];with_reducible exact H2_)|(have H2_:=(Option.bind_some _ _).symm.trans H;with_reducible exact H2_)|with_reducible exact H|(rw [hy350];exact H)|exact H
     have Ny350:=A_ hy350
     clear hy350
     by_cases c12 : y347.length + y350.length < 5864062014805
     ·
      rw [if_pos c12] at H
      have LMc12:=A_ c12
      clear c12
      obtain ⟨y355,hy355⟩ : ∃ y_ : List (List Int),y_ = (y347 ++ y350):=⟨_,rfl⟩
      replace H : ((some (([] : List (List Int)) : List (List Int))).bind fun y358=>(if (ji6) ≤ (t334.length : Int) then ((some (t334.drop ((ji6) : Int).toNat : List (List Int))).bind fun y361=>(if y358.length + y361.length < 5864062014805 then ((some (y358 ++ y361 : List (List Int))).bind fun y366=>((some (t334.take ((ji6) : Int).toNat : List (List Int))).bind fun y369=>(if y366.length + y369.length < 5864062014805 then ((some (y366 ++ y369 : List (List Int))).bind fun y374=>((channels_Apart.f k t331 t334 t337).bind fun bt377=>((channels_Apart.f k y355 y374 t337).bind fun bt379=>((channels_Together.f k t331 t334 t337).bind fun bt381=>((channels_Together.f k y355 y374 t337).bind fun bt383=>(if bt377.2 = 0 then (if bt379.2 = 0 then (if bt381.2 = 0 then (if bt383.2 = 0 then (if bt377.1 = bt379.1 then (shapesearchlaw16_ChannelsOrder.j0 k t331 t334 y355 y374 (bt381.1 != bt383.1)) else (shapesearchlaw16_ChannelsOrder.j0 k t331 t334 y355 y374 true)) else (shapesearchlaw16_ChannelsOrder.j0 k t331 t334 y355 y374 true)) else (shapesearchlaw16_ChannelsOrder.j0 k t331 t334 y355 y374 true)) else (shapesearchlaw16_ChannelsOrder.j0 k t331 t334 y355 y374 true)) else (shapesearchlaw16_ChannelsOrder.j0 k t331 t334 y355 y374 true))))))) else (none)))) else (none))) else (none))) = some r:=by first|(rw [hy355];with_reducible exact H)|(have H2_:=(Option.bind_some _ _).symm.trans H;rw [hy355];with_reducible exact H2_)|(have H2_:=(Option.bind_some _ _).symm.trans H;with_reducible exact H2_)|with_reducible exact H|(rw [hy355];exact H)|exact H
      have Ny355:=A_ hy355
      clear hy355
      obtain ⟨y358,hy358⟩ : ∃ y_ : List (List Int),y_ = (([] : List (List Int))):=⟨_,rfl⟩
      replace H : (if (ji6) ≤ (t334.length : Int) then ((some (t334.drop ((ji6) : Int).toNat : List (List Int))).bind fun y361=>(if y358.length + y361.length < 5864062014805 then ((some (y358 ++ y361 : List (List Int))).bind fun y366=>((some (t334.take ((ji6) : Int).toNat : List (List Int))).bind fun y369=>(if y366.length + y369.length < 5864062014805 then ((some (y366 ++ y369 : List (List Int))).bind fun y374=>((channels_Apart.f k t331 t334 t337).bind fun bt377=>((channels_Apart.f k y355 y374 t337).bind fun bt379=>((channels_Together.f k t331 t334 t337).bind fun bt381=>((channels_Together.f k y355 y374 t337).bind fun bt383=>(if bt377.2 = 0 then (if bt379.2 = 0 then (if bt381.2 = 0 then (if bt383.2 = 0 then (if bt377.1 = bt379.1 then (shapesearchlaw16_ChannelsOrder.j0 k t331 t334 y355 y374 (bt381.1 != bt383.1)) else (shapesearchlaw16_ChannelsOrder.j0 k t331 t334 y355 y374 true)) else (shapesearchlaw16_ChannelsOrder.j0 k t331 t334 y355 y374 true)) else (shapesearchlaw16_ChannelsOrder.j0 k t331 t334 y355 y374 true)) else (shapesearchlaw16_ChannelsOrder.j0 k t331 t334 y355 y374 true)) else (shapesearchlaw16_ChannelsOrder.j0 k t331 t334 y355 y374 true))))))) else (none)))) else (none))) else (none)) = some r:=by first|(rw [hy358];with_reducible exact H)|(have H2_:=(Option.bind_some _ _).symm.trans H;rw [hy358];with_reducible exact H2_)|(have H2_:=(Option.bind_some _ _).symm.trans H;with_reducible exact H2_)|with_reducible exact H|(rw [hy358];exact H)|exact H
      have Ny358:=A_ hy358
      clear hy358
      have c13b0:=eq_true (of_decide_eq_true (by first|(with_reducible assumption)|assumption) : 0 ≤ (ji6))
      by_cases c14 : (ji6) ≤ (t334.length : Int)
      ·
       rw [if_pos c14] at H
       have c14b0:=eq_true c14
       have c14b1 : decide ((ji6) ≤ (t334.length : Int)) = true:=decide_eq_true c14
       clear c14
       obtain ⟨y361,hy361⟩ : ∃ y_ : List (List Int),y_ = (t334.drop ((ji6) : Int).toNat):=⟨_,rfl⟩
       replace H : (if y358.length + y361.length < 5864062014805 then ((some (y358 ++ y361 : List (List Int))).bind fun y366=>((some (t334.take ((ji6) : Int).toNat : List (List Int))).bind fun y369=>(if y366.length + y369.length < 5864062014805 then ((some (y366 ++ y369 : List (List Int))).bind fun y374=>((channels_Apart.f k t331 t334 t337).bind fun bt377=>((channels_Apart.f k y355 y374 t337).bind fun bt379=>((channels_Together.f k t331 t334 t337).bind fun bt381=>((channels_Together.f k y355 y374 t337).bind fun bt383=>(if bt377.2 = 0 then (if bt379.2 = 0 then (if bt381.2 = 0 then (if bt383.2 = 0 then (if bt377.1 = bt379.1 then (shapesearchlaw16_ChannelsOrder.j0 k t331 t334 y355 y374 (bt381.1 != bt383.1)) else (shapesearchlaw16_ChannelsOrder.j0 k t331 t334 y355 y374 true)) else (shapesearchlaw16_ChannelsOrder.j0 k t331 t334 y355 y374 true)) else (shapesearchlaw16_ChannelsOrder.j0 k t331 t334 y355 y374 true)) else (shapesearchlaw16_ChannelsOrder.j0 k t331 t334 y355 y374 true)) else (shapesearchlaw16_ChannelsOrder.j0 k t331 t334 y355 y374 true))))))) else (none)))) else (none)) = some r:=by first|(rw [hy361];with_reducible exact H)|(have H2_:=(Option.bind_some _ _).symm.trans H;rw [hy361];with_reducible exact H2_)|(have H2_:=(Option.bind_some _ _).symm.trans H;with_reducible exact H2_)|with_reducible exact H|(rw [hy361];exact H)|exact H
       have Ny361:=A_ hy361
       clear hy361
       by_cases c15 : y358.length + y361.length < 5864062014805
       ·
        rw [if_pos c15] at H
        have LMc15:=A_ c15
        clear c15
        obtain ⟨y366,hy366⟩ : ∃ y_ : List (List Int),y_ = (y358 ++ y361):=⟨_,rfl⟩
        replace H : ((some (t334.take ((ji6) : Int).toNat : List (List Int))).bind fun y369=>(if y366.length + y369.length < 5864062014805 then ((some (y366 ++ y369 : List (List Int))).bind fun y374=>((channels_Apart.f k t331 t334 t337).bind fun bt377=>((channels_Apart.f k y355 y374 t337).bind fun bt379=>((channels_Together.f k t331 t334 t337).bind fun bt381=>((channels_Together.f k y355 y374 t337).bind fun bt383=>(if bt377.2 = 0 then (if bt379.2 = 0 then (if bt381.2 = 0 then (if bt383.2 = 0 then (if bt377.1 = bt379.1 then (shapesearchlaw16_ChannelsOrder.j0 k t331 t334 y355 y374 (bt381.1 != bt383.1)) else (shapesearchlaw16_ChannelsOrder.j0 k t331 t334 y355 y374 true)) else (shapesearchlaw16_ChannelsOrder.j0 k t331 t334 y355 y374 true)) else (shapesearchlaw16_ChannelsOrder.j0 k t331 t334 y355 y374 true)) else (shapesearchlaw16_ChannelsOrder.j0 k t331 t334 y355 y374 true)) else (shapesearchlaw16_ChannelsOrder.j0 k t331 t334 y355 y374 true))))))) else (none))) = some r:=by first|(rw [hy366];with_reducible exact H)|(have H2_:=(Option.bind_some _ _).symm.trans H;rw [hy366];with_reducible exact H2_)|(have H2_:=(Option.bind_some _ _).symm.trans H;with_reducible exact H2_)|with_reducible exact H|(rw [hy366];exact H)|exact H
        have Ny366:=A_ hy366
        clear hy366
        have c16b0:=eq_true (of_decide_eq_true (by first|(with_reducible assumption)|assumption) : 0 ≤ (ji6))
        have c17b0:=eq_true (of_decide_eq_true (by first|(with_reducible assumption)|assumption) : (ji6) ≤ (t334.length : Int))
        obtain ⟨y369,hy369⟩ : ∃ y_ : List (List Int),y_ = (t334.take ((ji6) : Int).toNat):=⟨_,rfl⟩
        replace H : (if y366.length + y369.length < 5864062014805 then ((some (y366 ++ y369 : List (List Int))).bind fun y374=>((channels_Apart.f k t331 t334 t337).bind fun bt377=>((channels_Apart.f k y355 y374 t337).bind fun bt379=>((channels_Together.f k t331 t334 t337).bind fun bt381=>((channels_Together.f k y355 y374 t337).bind fun bt383=>(if bt377.2 = 0 then (if bt379.2 = 0 then (if bt381.2 = 0 then (if bt383.2 = 0 then (if bt377.1 = bt379.1 then (shapesearchlaw16_ChannelsOrder.j0 k t331 t334 y355 y374 (bt381.1 != bt383.1)) else (shapesearchlaw16_ChannelsOrder.j0 k t331 t334 y355 y374 true)) else (shapesearchlaw16_ChannelsOrder.j0 k t331 t334 y355 y374 true)) else (shapesearchlaw16_ChannelsOrder.j0 k t331 t334 y355 y374 true)) else (shapesearchlaw16_ChannelsOrder.j0 k t331 t334 y355 y374 true)) else (shapesearchlaw16_ChannelsOrder.j0 k t331 t334 y355 y374 true))))))) else (none)) = some r:=by first|(rw [hy369];with_reducible exact H)|(have H2_:=(Option.bind_some _ _).symm.trans H;rw [hy369];with_reducible exact H2_)|(have H2_:=(Option.bind_some _ _).symm.trans H;with_reducible exact H2_)|with_reducible exact H|(rw [hy369];exact H)|exact H
        have Ny369:=A_ hy369
        clear hy369
        by_cases c18 : y366.length + y369.length < 5864062014805
        ·
         rw [if_pos c18] at H
         have LMc18:=A_ c18
         clear c18
         obtain ⟨y374,hy374⟩ : ∃ y_ : List (List Int),y_ = (y366 ++ y369):=⟨_,rfl⟩
         replace H : ((channels_Apart.f k t331 t334 t337).bind fun bt377=>((channels_Apart.f k y355 y374 t337).bind fun bt379=>((channels_Together.f k t331 t334 t337).bind fun bt381=>((channels_Together.f k y355 y374 t337).bind fun bt383=>(if bt377.2 = 0 then (if bt379.2 = 0 then (if bt381.2 = 0 then (if bt383.2 = 0 then (if bt377.1 = bt379.1 then (shapesearchlaw16_ChannelsOrder.j0 k t331 t334 y355 y374 (bt381.1 != bt383.1)) else (shapesearchlaw16_ChannelsOrder.j0 k t331 t334 y355 y374 true)) else (shapesearchlaw16_ChannelsOrder.j0 k t331 t334 y355 y374 true)) else (shapesearchlaw16_ChannelsOrder.j0 k t331 t334 y355 y374 true)) else (shapesearchlaw16_ChannelsOrder.j0 k t331 t334 y355 y374 true)) else (shapesearchlaw16_ChannelsOrder.j0 k t331 t334 y355 y374 true)))))) = some r:=by first|(rw [hy374];with_reducible exact H)|(have H2_:=(Option.bind_some _ _).symm.trans H;rw [hy374];with_reducible exact H2_)|(have H2_:=(Option.bind_some _ _).symm.trans H;with_reducible exact H2_)|with_reducible exact H|(rw [hy374];exact H)|exact H
         have Ny374:=A_ hy374
         clear hy374
         replace H:=Option.bind_eq_some_iff.mp H
         obtain ⟨⟨t377,t378⟩,A190,H⟩:=H
         replace H : ((channels_Apart.f k y355 y374 t337).bind fun bt379=>((channels_Together.f k t331 t334 t337).bind fun bt381=>((channels_Together.f k y355 y374 t337).bind fun bt383=>(if t378 = 0 then (if bt379.2 = 0 then (if bt381.2 = 0 then (if bt383.2 = 0 then (if t377 = bt379.1 then (shapesearchlaw16_ChannelsOrder.j0 k t331 t334 y355 y374 (bt381.1 != bt383.1)) else (shapesearchlaw16_ChannelsOrder.j0 k t331 t334 y355 y374 true)) else (shapesearchlaw16_ChannelsOrder.j0 k t331 t334 y355 y374 true)) else (shapesearchlaw16_ChannelsOrder.j0 k t331 t334 y355 y374 true)) else (shapesearchlaw16_ChannelsOrder.j0 k t331 t334 y355 y374 true)) else (shapesearchlaw16_ChannelsOrder.j0 k t331 t334 y355 y374 true))))) = some r:=H
         have A19:=A_ A190
         clear A190
         replace H:=Option.bind_eq_some_iff.mp H
         obtain ⟨⟨t379,t380⟩,A200,H⟩:=H
         replace H : ((channels_Together.f k t331 t334 t337).bind fun bt381=>((channels_Together.f k y355 y374 t337).bind fun bt383=>(if t378 = 0 then (if t380 = 0 then (if bt381.2 = 0 then (if bt383.2 = 0 then (if t377 = t379 then (shapesearchlaw16_ChannelsOrder.j0 k t331 t334 y355 y374 (bt381.1 != bt383.1)) else (shapesearchlaw16_ChannelsOrder.j0 k t331 t334 y355 y374 true)) else (shapesearchlaw16_ChannelsOrder.j0 k t331 t334 y355 y374 true)) else (shapesearchlaw16_ChannelsOrder.j0 k t331 t334 y355 y374 true)) else (shapesearchlaw16_ChannelsOrder.j0 k t331 t334 y355 y374 true)) else (shapesearchlaw16_ChannelsOrder.j0 k t331 t334 y355 y374 true)))) = some r:=H
         have A20:=A_ A200
         clear A200
         replace H:=Option.bind_eq_some_iff.mp H
         obtain ⟨⟨t381,t382⟩,A210,H⟩:=H
         replace H : ((channels_Together.f k y355 y374 t337).bind fun bt383=>(if t378 = 0 then (if t380 = 0 then (if t382 = 0 then (if bt383.2 = 0 then (if t377 = t379 then (shapesearchlaw16_ChannelsOrder.j0 k t331 t334 y355 y374 (t381 != bt383.1)) else (shapesearchlaw16_ChannelsOrder.j0 k t331 t334 y355 y374 true)) else (shapesearchlaw16_ChannelsOrder.j0 k t331 t334 y355 y374 true)) else (shapesearchlaw16_ChannelsOrder.j0 k t331 t334 y355 y374 true)) else (shapesearchlaw16_ChannelsOrder.j0 k t331 t334 y355 y374 true)) else (shapesearchlaw16_ChannelsOrder.j0 k t331 t334 y355 y374 true))) = some r:=H
         have A21:=A_ A210
         clear A210
         replace H:=Option.bind_eq_some_iff.mp H
         obtain ⟨⟨t383,t384⟩,A220,H⟩:=H
         replace H : (if t378 = 0 then (if t380 = 0 then (if t382 = 0 then (if t384 = 0 then (if t377 = t379 then (shapesearchlaw16_ChannelsOrder.j0 k t331 t334 y355 y374 (t381 != t383)) else (shapesearchlaw16_ChannelsOrder.j0 k t331 t334 y355 y374 true)) else (shapesearchlaw16_ChannelsOrder.j0 k t331 t334 y355 y374 true)) else (shapesearchlaw16_ChannelsOrder.j0 k t331 t334 y355 y374 true)) else (shapesearchlaw16_ChannelsOrder.j0 k t331 t334 y355 y374 true)) else (shapesearchlaw16_ChannelsOrder.j0 k t331 t334 y355 y374 true)) = some r:=H
         have A22:=A_ A220
         clear A220
         have HC23:=A_ H
         clear H
         go_enter Try.func8,Try.ntmps8
         try go_wp2_with (first|((with_reducible refine gate_callee (f:=10) rfl ?_);refine goesL_ (some 29) rfl rfl Try.func10 (by kernel_rfl) rfl #[.slice A0 l0.length c0] rfl (by (try simp only [List.map_toArray,List.map_cons,List.map_nil]);first|done|rfl|(simp only [List.length_drop,List.length_take];rfl)|((try rw [KY28.out]);(try rw [KY29.out]);(try rw [KY30.out]);(try rw [KY32.out]);rfl)) ?_;(with_reducible refine (shapesearchkeep_New.calls _ _ l0 t328 t329 w _ ?side1 ?side2 ?side3 A3.out).mono ?_);(case side1=>repeat (first|(with_reducible first|exact HB.out|apply ba|apply bb|apply bc)|exact HB.out));(case side2=>exact HR0.out);(case side3=>exact HC0.out);rintro e w24 ⟨g330,rfl,hi,hb,hb2⟩;refine ⟨_,rfl,?_⟩;have n0_:=A_ (hb);have n1_:=A_ (hi);clear HB;have HB:=n0_;have HI330:=n1_;clear n0_ n1_;(try clear hb);(try clear hb2);(try clear hk);(try clear hi))|((with_reducible refine gate_callee (f:=9) rfl ?_);refine goesL_ (some 30) rfl rfl Try.func9 (by kernel_rfl) rfl #[.pointer (some ⟨g330,0,none⟩)] rfl (by (try simp only [List.map_toArray,List.map_cons,List.map_nil]);first|done|rfl|(simp only [List.length_drop,List.length_take];rfl)|((try rw [KY28.out]);(try rw [KY29.out]);(try rw [KY30.out]);(try rw [KY32.out]);rfl)) ?_;(with_reducible refine (shapesearchlaw16_bundles.calls k g330 t328 t329 t331 t334 t337 t338 w _ ?side1 ?side2 A4.out).mono ?_);(case side1=>repeat (first|(with_reducible first|exact HI330.out|apply IsS56.alloc|apply IsS56.drewN|apply IsS56.drew|apply IsS56.set_1)|exact HI330.out));(case side2=>repeat (first|(with_reducible first|exact HB.out|apply ba|apply bb|apply bc|refine below_set ?_ (IsS56.ge HI330.out))|exact HB.out));rintro e w25 ⟨v332,v335,rfl,ho0,ho1,hi,hb,hk⟩;refine ⟨_,rfl,?_⟩;have n0_:=A_ (Kd.N_lower (Kd.N_mono (ok':=fun k_=>nb k_ v335∧k_≠g330) (Kd.S_N (Kd.S_bound ho0)) (fun k_ hk_=>⟨hk_.1,(IsS56.fresh (by repeat (first|(with_reducible first|exact HI330.out|apply IsS56.alloc|apply IsS56.drewN|apply IsS56.drew|apply IsS56.set_1)|exact HI330.out)) k_ hk_.2.1)⟩)) (below_size (by repeat (first|(with_reducible first|exact HB.out|apply ba|apply bb|apply bc|refine below_set ?_ (IsS56.ge HI330.out))|exact HB.out))));have n1_:=A_ (Kd.N_lower (Kd.N_mono (ok':=fun k_=>nb k_ v332∧k_≠g330) (Kd.S_N (Kd.S_bound ho1)) (fun k_ hk_=>⟨hk_.1,(IsS56.fresh (by repeat (first|(with_reducible first|exact HI330.out|apply IsS56.alloc|apply IsS56.drewN|apply IsS56.drew|apply IsS56.set_1)|exact HI330.out)) k_ hk_.2.1)⟩)) (below_size (by repeat (first|(with_reducible first|exact HB.out|apply ba|apply bb|apply bc|refine below_set ?_ (IsS56.ge HI330.out))|exact HB.out))));have n2_:=A_ (hb);have n3_:=A_ (hi);clear HB;clear HI330;have HO333:=n0_;have HO336:=n1_;have HB:=n2_;have HI330:=n3_;clear n0_ n1_ n2_ n3_;(try clear hb);(try clear hb2);(try clear hk);(try clear hi);(try clear ho0);(try clear ho1);obtain ⟨Ao26,co26,eo26⟩:=Kd.N_slice HO333.out;subst eo26))
         have n0_:=A_ (Kd.N_drew HO333.out)
         have n1_:=A_ (Kd.N_drew HO336.out)
         have n2_:=A_ (IsS56.drew HI330.out)
         have n3_:=A_ (below_drew1 HB.out)
         clear HO333
         clear HO336
         clear HI330
         clear HB
         have HO333:=n0_
         have HO336:=n1_
         have HI330:=n2_
         have HB:=n3_
         clear n0_ n1_ n2_ n3_
         have q28 : ((ji6) : Int) ≤ ((t331.length : Int) : Int):=of_decide_eq_true (by first|(with_reducible assumption)|assumption)
         obtain ⟨i028,hi028,_,hsz28,_⟩:=info_parts info22
         have hroom28 : t331.length ≤ co26:=(Kd.N_reads' HO333.out).2.1
         have hC28 : Kd.F (Kd.slice 3 (Kd.int .i64)) _ _ Ao26 t331.length t331:=(Kd.V_at (base:=w.heap.size) (Kd.N_V HO333.out)).2.2
         have q028 : (0 : Int) ≤ ((ji6) : Int):=of_decide_eq_true (by first|(with_reducible assumption)|assumption)
         have hcut28:=cut_from (P:=Try.prog) 23 22 .i64 Try.underlying23 hi028 1 hsz28 Ao26 t331.length co26 (ji6) q028 q28
         have hr28:=Kd.F_cut (m:=((ji6) : Int).toNat) (c:=co26) hC28 (by omega) hroom28
         obtain ⟨A28,hA28⟩ : ∃ A1,A1 = (if co26 = ((ji6) : Int).toNat then Ao26 else (Ao26 : Option Addr).map (·.add (((ji6) : Int).toNat * 1))):=⟨_,rfl⟩
         obtain ⟨c28,hc28⟩ : ∃ c1,c1 = co26 - ((ji6) : Int).toNat:=⟨_,rfl⟩
         have hy28 : y342.length = t331.length - ((ji6) : Int).toNat:=(by rw [Ny342.out,List.length_drop] <;> omega)
         rw [show (t331).drop ((ji6) : Int).toNat = y342 from Ny342.out.symm] at hr28
         replace hr28 : Kd.F (Kd.slice 3 (Kd.int .i64)) _ _ A28 y342.length y342:=(by rw [hA28];exact hr28)
         rw [← hy28,← hA28,← hc28] at hcut28
         have HO346:=A_ (show Kd.V (Kd.slice 3 (Kd.int .i64)) 22 _ w.heap.size _ (.slice A28 y342.length c28) y342 from Kd.V_mk (by rw [hy28,hc28];exact Nat.sub_le_sub_right hroom28 _) hr28)
         have HC346:=A_ (show y342.length ≤ c28 from by rw [hy28,hc28];exact Nat.sub_le_sub_right hroom28 _)
         clear hr28 hC28 hroom28 hi028 hsz28 hc28
         have KY28:=A_ hy28
         have KA28:=A_ hA28
         clear hy28 hA28
         replace q28:=eq_true q28
         have q29 : ((ji6) : Int) ≤ ((t331.length : Int) : Int):=of_decide_eq_true (by first|(with_reducible assumption)|assumption)
         obtain ⟨i029,hi029,_,hsz29,_⟩:=info_parts info22
         have hroom29 : t331.length ≤ co26:=(Kd.N_reads' HO333.out).2.1
         have hC29 : Kd.F (Kd.slice 3 (Kd.int .i64)) _ _ Ao26 t331.length t331:=(Kd.V_at (base:=w.heap.size) (Kd.N_V HO333.out)).2.2
         have hcut29:=cut_to (P:=Try.prog) 23 22 .i64 Try.underlying23 hi029 Ao26 t331.length co26 (ji6) (of_decide_eq_true (by first|(with_reducible assumption)|assumption)) q29 hroom29
         have hr29:=Kd.F_take (m:=((ji6) : Int).toNat) hC29 (by omega)
         have hy29 : y350.length = ((ji6) : Int).toNat:=(by rw [Ny350.out,List.length_take];omega)
         rw [← Ny350.out] at hr29
         rw [← hy29] at hcut29
         have HO354:=A_ (show Kd.V (Kd.slice 3 (Kd.int .i64)) 22 _ w.heap.size _ (.slice Ao26 y350.length co26) y350 from Kd.V_mk (by omega) hr29)
         have HC354:=A_ (show y350.length ≤ co26 from by omega)
         clear hr29 hC29 hroom29 hi029 hsz29
         have KY29:=A_ hy29
         clear hy29
         replace q29:=eq_true q29
         obtain ⟨Ao31,co31,eo31⟩:=Kd.N_slice HO336.out
         (first|subst eo31|(injection eo31 with f1_ f2_ f3_;have f4_:=f1_.symm;have f5_:=f3_.symm;clear f1_ f2_ f3_;subst f4_;subst f5_))
         have q30 : ((ji6) : Int) ≤ ((t334.length : Int) : Int):=of_decide_eq_true (by first|(with_reducible assumption)|assumption)
         obtain ⟨i030,hi030,_,hsz30,_⟩:=info_parts info22
         have hroom30 : t334.length ≤ co31:=(Kd.N_reads' HO336.out).2.1
         have hC30 : Kd.F (Kd.slice 3 (Kd.int .i64)) _ _ Ao31 t334.length t334:=(Kd.V_at (base:=w.heap.size) (Kd.N_V HO336.out)).2.2
         have q030 : (0 : Int) ≤ ((ji6) : Int):=of_decide_eq_true (by first|(with_reducible assumption)|assumption)
         have hcut30:=cut_from (P:=Try.prog) 23 22 .i64 Try.underlying23 hi030 1 hsz30 Ao31 t334.length co31 (ji6) q030 q30
         have hr30:=Kd.F_cut (m:=((ji6) : Int).toNat) (c:=co31) hC30 (by omega) hroom30
         obtain ⟨A30,hA30⟩ : ∃ A1,A1 = (if co31 = ((ji6) : Int).toNat then Ao31 else (Ao31 : Option Addr).map (·.add (((ji6) : Int).toNat * 1))):=⟨_,rfl⟩
         obtain ⟨c30,hc30⟩ : ∃ c1,c1 = co31 - ((ji6) : Int).toNat:=⟨_,rfl⟩
         have hy30 : y361.length = t334.length - ((ji6) : Int).toNat:=(by rw [Ny361.out,List.length_drop] <;> omega)
         rw [show (t334).drop ((ji6) : Int).toNat = y361 from Ny361.out.symm] at hr30
         replace hr30 : Kd.F (Kd.slice 3 (Kd.int .i64)) _ _ A30 y361.length y361:=(by rw [hA30];exact hr30)
         rw [← hy30,← hA30,← hc30] at hcut30
         have HO365:=A_ (show Kd.V (Kd.slice 3 (Kd.int .i64)) 22 _ w.heap.size _ (.slice A30 y361.length c30) y361 from Kd.V_mk (by rw [hy30,hc30];exact Nat.sub_le_sub_right hroom30 _) hr30)
         have HC365:=A_ (show y361.length ≤ c30 from by rw [hy30,hc30];exact Nat.sub_le_sub_right hroom30 _)
         clear hr30 hC30 hroom30 hi030 hsz30 hc30
         have KY30:=A_ hy30
         have KA30:=A_ hA30
         clear hy30 hA30
         replace q30:=eq_true q30
         have q32 : ((ji6) : Int) ≤ ((t334.length : Int) : Int):=of_decide_eq_true (by first|(with_reducible assumption)|assumption)
         obtain ⟨i032,hi032,_,hsz32,_⟩:=info_parts info22
         have hroom32 : t334.length ≤ co31:=(Kd.N_reads' HO336.out).2.1
         have hC32 : Kd.F (Kd.slice 3 (Kd.int .i64)) _ _ Ao31 t334.length t334:=(Kd.V_at (base:=w.heap.size) (Kd.N_V HO336.out)).2.2
         have hcut32:=cut_to (P:=Try.prog) 23 22 .i64 Try.underlying23 hi032 Ao31 t334.length co31 (ji6) (of_decide_eq_true (by first|(with_reducible assumption)|assumption)) q32 hroom32
         have hr32:=Kd.F_take (m:=((ji6) : Int).toNat) hC32 (by omega)
         have hy32 : y369.length = ((ji6) : Int).toNat:=(by rw [Ny369.out,List.length_take];omega)
         rw [← Ny369.out] at hr32
         rw [← hy32] at hcut32
         have HO373:=A_ (show Kd.V (Kd.slice 3 (Kd.int .i64)) 22 _ w.heap.size _ (.slice Ao31 y369.length co31) y369 from Kd.V_mk (by omega) hr32)
         have HC373:=A_ (show y369.length ≤ co31 from by omega)
         clear hr32 hC32 hroom32 hi032 hsz32
         have KY32:=A_ hy32
         clear hy32
         replace q32:=eq_true q32
         refine start_ (n:=20) (S:=fun w'=>True) (ds:=[]) #[false,false,false,false,false,false,false,false,false,false,false,false,false,false,false,false,false,false,false,false] (by kernel_rfl) rfl rfl trivial (fun hHeld=>?_);refine with_tabW shapesearchlaw16_ChannelsOrder.tab3 shapesearchlaw16_ChannelsOrder.bits3 (fun HT_ HW_=>?_)
         generalize w25.drew = w27 at HO333 HO336 HI330 HB HO346 HO354 HO365 HO373 hHeld ⊢
         refine pure_ (i:=1) (N:=some 40) (v:=?_) (a':=?_) #[false,true,false,false,false,false,false,false,false,false,false,false,false,false,false,false,false,false,false,false] rfl rfl (any_of HT_.out (by kernel_rfl)) (fun _ _ _ h=>h) (Or.inl ⟨by rfl,?_⟩) ?_ ?_
         rotate_left
         ·
          intro w'
          go_simp
          with_reducible rfl
         rotate_left
         ·
          simp only [Act.put,sa,sb,sc,i64_w,i32_w]
          rfl
         refine pure_ (i:=2) (N:=some 41) (v:=?_) (a':=?_) #[false,true,true,false,false,false,false,false,false,false,false,false,false,false,false,false,false,false,false,false] rfl rfl (any_of HT_.out (by kernel_rfl)) (fun _ _ _ h=>h) (Or.inl ⟨by rfl,?_⟩) ?_ ?_
         rotate_left
         ·
          intro w'
          go_simp
          with_reducible rfl
         rotate_left
         ·
          simp only [Act.put,sa,sb,sc,i64_w,i32_w]
          rfl
         refine pure_ (i:=3) (N:=some 42) (v:=?_) (a':=?_) #[false,true,true,true,false,false,false,false,false,false,false,false,false,false,false,false,false,false,false,false] rfl rfl (any_of HT_.out (by kernel_rfl)) (fun _ _ _ h=>h) (Or.inl ⟨by rfl,?_⟩) ?_ ?_
         rotate_left
         ·
          intro w'
          go_simp
          with_reducible rfl
         rotate_left
         ·
          simp only [Act.put,sa,sb,sc,i64_w,i32_w]
          rfl
         refine pure_ (i:=5) (N:=some 44) (v:=?_) (a':=?_) #[false,true,true,true,false,true,false,false,false,false,false,false,false,false,false,false,false,false,false,false] rfl rfl (any_of HT_.out (by kernel_rfl)) (fun _ _ _ h=>h) (Or.inl ⟨by rfl,?_⟩) ?_ ?_
         rotate_left
         ·
          intro w'
          go_simp
          with_reducible rfl
         rotate_left
         ·
          simp only [Act.put,sa,sb,sc,i64_w,i32_w]
          rfl
         refine pure_ (i:=6) (N:=some 45) (v:=?_) (a':=?_) #[false,true,true,true,false,true,true,false,false,false,false,false,false,false,false,false,false,false,false,false] rfl rfl (any_of HT_.out (by kernel_rfl)) (fun _ _ _ h=>h) (Or.inl ⟨by rfl,?_⟩) ?_ ?_
         rotate_left
         ·
          intro w'
          go_simp
          with_reducible rfl
         rotate_left
         ·
          simp only [Act.put,sa,sb,sc,i64_w,i32_w]
          rfl
         refine pure_ (i:=7) (N:=some 46) (v:=?_) (a':=?_) #[false,true,true,true,false,true,true,true,false,false,false,false,false,false,false,false,false,false,false,false] rfl rfl (any_of HT_.out (by kernel_rfl)) (fun _ _ _ h=>h) (Or.inl ⟨by rfl,?_⟩) ?_ ?_
         rotate_left
         ·
          intro w'
          go_simp
          with_reducible rfl
         rotate_left
         ·
          simp only [Act.put,sa,sb,sc,i64_w,i32_w]
          rfl
         refine pure_ (i:=10) (N:=some 49) (v:=?_) (a':=?_) #[false,true,true,true,false,true,true,true,false,false,true,false,false,false,false,false,false,false,false,false] rfl rfl (any_of HT_.out (by kernel_rfl)) (fun _ _ _ h=>h) (Or.inl ⟨by rfl,?_⟩) ?_ ?_
         rotate_left
         ·
          intro w'
          go_simp
          with_reducible rfl
         rotate_left
         ·
          simp only [Act.put,sa,sb,sc,i64_w,i32_w]
          rfl
         refine pure_ (i:=11) (N:=some 50) (v:=?_) (a':=?_) #[false,true,true,true,false,true,true,true,false,false,true,true,false,false,false,false,false,false,false,false] rfl rfl (any_of HT_.out (by kernel_rfl)) (fun _ _ _ h=>h) (Or.inl ⟨by rfl,?_⟩) ?_ ?_
         rotate_left
         ·
          intro w'
          go_simp
          with_reducible rfl
         rotate_left
         ·
          simp only [Act.put,sa,sb,sc,i64_w,i32_w]
          rfl
         refine pure_ (i:=12) (N:=some 51) (v:=?_) (a':=?_) #[false,true,true,true,false,true,true,true,false,false,true,true,true,false,false,false,false,false,false,false] rfl rfl (any_of HT_.out (by kernel_rfl)) (fun _ _ _ h=>h) (Or.inl ⟨by rfl,?_⟩) ?_ ?_
         rotate_left
         ·
          intro w'
          go_simp
          with_reducible rfl
         rotate_left
         ·
          simp only [Act.put,sa,sb,sc,i64_w,i32_w]
          rfl
         refine pure_ (i:=14) (N:=some 53) (v:=?_) (a':=?_) #[false,true,true,true,false,true,true,true,false,false,true,true,true,false,true,false,false,false,false,false] rfl rfl (any_of HT_.out (by kernel_rfl)) (fun _ _ _ h=>h) (Or.inl ⟨by rfl,?_⟩) ?_ ?_
         rotate_left
         ·
          intro w'
          go_simp
          with_reducible rfl
         rotate_left
         ·
          simp only [Act.put,sa,sb,sc,i64_w,i32_w]
          rfl
         refine pure_ (i:=15) (N:=some 54) (v:=?_) (a':=?_) #[false,true,true,true,false,true,true,true,false,false,true,true,true,false,true,true,false,false,false,false] rfl rfl (any_of HT_.out (by kernel_rfl)) (fun _ _ _ h=>h) (Or.inl ⟨by rfl,?_⟩) ?_ ?_
         rotate_left
         ·
          intro w'
          go_simp
          with_reducible rfl
         rotate_left
         ·
          simp only [Act.put,sa,sb,sc,i64_w,i32_w]
          rfl
         refine pure_ (i:=16) (N:=some 55) (v:=?_) (a':=?_) #[false,true,true,true,false,true,true,true,false,false,true,true,true,false,true,true,true,false,false,false] rfl rfl (any_of HT_.out (by kernel_rfl)) (fun _ _ _ h=>h) (Or.inl ⟨by rfl,?_⟩) ?_ ?_
         rotate_left
         ·
          intro w'
          go_simp
          with_reducible rfl
         rotate_left
         ·
          simp only [Act.put,sa,sb,sc,i64_w,i32_w]
          rfl
         refine join_ (σ:=Value × Value × Value × Value) 4 #[true,true,true,true,true,true,true,true,true,true,true,true,true,false,true,true,true,false,false,false] (fun s_=>[(39,s_.1),(43,s_.2.1),(47,s_.2.2.1),(48,s_.2.2.2)]) (fun s_ w'=>(Kd.N (Kd.slice 3 (Kd.int .i64)) 22 w' w.heap.size (fun k_=>nb k_ (.slice Ao31 t334.length co31)∧some k_≠(s_.2.2.1 : Value).ownBlock∧some k_≠(s_.2.2.2 : Value).ownBlock∧k_≠g330) (.slice Ao26 t331.length co26) t331)∧(Kd.N (Kd.slice 3 (Kd.int .i64)) 22 w' w.heap.size (fun k_=>nb k_ (.slice Ao26 t331.length co26)∧some k_≠(s_.2.2.1 : Value).ownBlock∧some k_≠(s_.2.2.2 : Value).ownBlock∧k_≠g330) (.slice Ao31 t334.length co31) t334)∧(Kd.V (Kd.slice 3 (Kd.int .i64)) 22 w' w.heap.size (fun k_=>nb k_ (.slice Ao31 t334.length co31)∧some k_≠(s_.2.2.1 : Value).ownBlock∧some k_≠(s_.2.2.2 : Value).ownBlock∧k_≠g330) (.slice A28 y342.length c28) y342)∧(Kd.V (Kd.slice 3 (Kd.int .i64)) 22 w' w.heap.size (fun k_=>nb k_ (.slice Ao31 t334.length co31)∧some k_≠(s_.2.2.1 : Value).ownBlock∧some k_≠(s_.2.2.2 : Value).ownBlock∧k_≠g330) (.slice Ao26 y350.length co26) y350)∧(Kd.N (Kd.slice 3 (Kd.int .i64)) 22 w' w.heap.size (fun k_=>nb k_ (.slice Ao31 t334.length co31)∧some k_≠(s_.2.2.2 : Value).ownBlock∧k_≠g330) s_.2.2.1 y355)∧(Kd.N (Kd.slice 3 (Kd.int .i64)) 22 w' w.heap.size (fun k_=>nb k_ (.slice Ao26 t331.length co26)∧nb k_ (.slice Ao31 t334.length co31)∧some k_≠(s_.2.2.1 : Value).ownBlock∧k_≠g330) s_.2.2.2 y358)∧(Kd.V (Kd.slice 3 (Kd.int .i64)) 22 w' w.heap.size (fun k_=>nb k_ (.slice Ao26 t331.length co26)∧some k_≠(s_.2.2.1 : Value).ownBlock∧some k_≠(s_.2.2.2 : Value).ownBlock∧k_≠g330) (.slice A30 y361.length c30) y361)∧(Kd.V (Kd.slice 3 (Kd.int .i64)) 22 w' w.heap.size (fun k_=>nb k_ (.slice Ao26 t331.length co26)∧some k_≠(s_.2.2.1 : Value).ownBlock∧some k_≠(s_.2.2.2 : Value).ownBlock∧k_≠g330) (.slice Ao31 y369.length co31) y369)∧(IsS56 w w' g330 t328 t338)∧(Below w.heap.size w w')) ?_ ?_
         rotate_left
         ·
          intro hCont
          refine two_ (i:=0) (j:=9) (Ni:=some 39) (Nj:=some 48) #[true,true,true,true,false,true,true,true,false,false,true,true,true,false,true,true,true,false,false,false] #[false,true,true,true,false,true,true,true,false,true,true,true,true,false,true,true,true,false,false,false] rfl rfl rfl rfl (two_of HT_.out (by kernel_rfl)) (by decide) (by decide) (fun K hK=>?_) (fun K hK=>?_)
          ·
           skip
           refine Kd.N_lit_step (Kd.slice 3 (Kd.int .i64)) _ 22 ?hg (N':=39) ?hd (xs:=([] : List (List Int))) (inner:=[]) (ok:=(fun k_=>nb k_ (.slice Ao26 t331.length co26)∧nb k_ (.slice Ao31 t334.length co31)∧k_≠g330)) (okp:=(fun k_=>nb k_ (.slice Ao26 t331.length co26)∧nb k_ (.slice Ao31 t334.length co31)∧k_≠g330)) ?hr ?hp (fun _ hk=>hk) ((show ∀ k_,w27.heap.size ≤ k_ → (fun k_=>nb k_ (.slice Ao26 t331.length co26)∧nb k_ (.slice Ao31 t334.length co31)∧k_≠g330) k_ from fun k_ hk=>⟨rh (Kd.N_lt (by (with_reducible repeat (first|apply na|apply nd_|apply ne_));exact HO333.out)) k_ hk,rh (Kd.N_lt (by (with_reducible repeat (first|apply na|apply nd_|apply ne_));exact HO336.out)) k_ hk,IsS56.fresh (by repeat (first|(with_reducible first|exact HI330.out|apply IsS56.alloc|apply IsS56.drewN|apply IsS56.drew|apply IsS56.set_1)|exact HI330.out)) k_ hk⟩) _ (Nat.le_refl _)) (Below.refl _ _) (Nat.le_refl _) (by simp) ?_;(case hd=>rfl);(case hg=>rfl);(case hr=>first|(go_simp;done)|(go_simp;rfl));(case hp=>exact (Reps.none _ _))
           intro v340 w33 ho34 hb hg_ hnew_
           clear hg_ hnew_
           (first|rw [← Ny339.out] at ho34|(simp only [Int.reduceToNat] at ho34;rw [← Ny339.out] at ho34))
           have n0_:=A_ (Kd.N_elder' (by (with_reducible repeat (first|apply na|apply nd_|apply ne_));exact HO333.out) (Kd.N_base ho34) hb)
           have n1_:=A_ (Kd.N_elder' (by (with_reducible repeat (first|apply na|apply nd_|apply ne_));exact HO336.out) (Kd.N_base ho34) hb)
           have n2_:=A_ (Kd.V_elder' (by (with_reducible repeat (first|apply Kd.V_alloc|apply Kd.V_drewN|apply Kd.V_drew));exact HO346.out) (Kd.N_base ho34) hb)
           have n3_:=A_ (Kd.V_elder' (by (with_reducible repeat (first|apply Kd.V_alloc|apply Kd.V_drewN|apply Kd.V_drew));exact HO354.out) (Kd.N_base ho34) hb)
           have n4_:=A_ (Kd.V_elder' (by (with_reducible repeat (first|apply Kd.V_alloc|apply Kd.V_drewN|apply Kd.V_drew));exact HO365.out) (Kd.N_base ho34) hb)
           have n5_:=A_ (Kd.V_elder' (by (with_reducible repeat (first|apply Kd.V_alloc|apply Kd.V_drewN|apply Kd.V_drew));exact HO373.out) (Kd.N_base ho34) hb)
           have n6_:=A_ (Kd.N_lower ho34 (below_size (by repeat (first|(with_reducible first|exact HB.out|apply ba|apply bb|apply bc|refine below_set ?_ (IsS56.ge HI330.out))|exact HB.out))))
           have n7_:=A_ (IsS56.below (by repeat (first|(with_reducible first|exact HI330.out|apply IsS56.alloc|apply IsS56.drewN|apply IsS56.drew|apply IsS56.set_1)|exact HI330.out)) hb)
           have n8_:=A_ (below_step (by repeat (first|(with_reducible first|exact HB.out|apply ba|apply bb|apply bc|refine below_set ?_ (IsS56.ge HI330.out))|exact HB.out)) hb)
           clear HO333
           clear HO336
           clear HO346
           clear HO354
           clear HO365
           clear HO373
           clear HI330
           clear HB
           have HO333:=n0_
           have HO336:=n1_
           have HO346:=n2_
           have HO354:=n3_
           have HO365:=n4_
           have HO373:=n5_
           have HO341:=n6_
           have HI330:=n7_
           have HB:=n8_
           clear n0_ n1_ n2_ n3_ n4_ n5_ n6_ n7_ n8_
           clear hb ho34
           refine hK.out _ _ trivial (fun hHeld=>?_)
           clear hK K
           refine norm_ (a':=?_) ?_ ?_
           rotate_left
           ·
            show Act.put _ (some 39) _ = _
            simp only [Act.put,sa,sb,sc,i64_w,i32_w]
            rfl
           refine two_ (i:=4) (j:=9) (Ni:=some 43) (Nj:=some 48) #[true,true,true,true,true,true,true,true,false,false,true,true,true,false,true,true,true,false,false,false] #[true,true,true,true,false,true,true,true,false,true,true,true,true,false,true,true,true,false,false,false] rfl rfl rfl rfl (two_of HT_.out (by kernel_rfl)) (by decide) (by decide) (fun K hK=>?_) (fun K hK=>?_)
           ·
            skip
            refine Kd.N_append_rows_step (Kd.slice 3 (Kd.int .i64)) (w0:=w) w.heap.size (by rfl) (.tmp 39) (.tmp 42) 23 22 (.slice none 0 0) 24 rfl Try.underlying23 info22 rfl (by decide) (by omega) v340 y339 y342 _ _ _ (fun k_=>nb k_ (.slice Ao31 t334.length co31)∧k_≠g330) (fun k_=>((fun k_=>nb k_ (.slice Ao31 t334.length co31)∧k_≠g330)) k_∧nb k_ v340) rfl rfl ?aO ?aR (fun _ hk=>hk) ?aF ?aB ?aS ?aL ?_
            (case aR=>exact (by skip;exact Kd.V_F (Kd.V_mono (ok':=(fun k_=>((fun k_=>nb k_ (.slice Ao31 t334.length co31)∧k_≠g330)) k_∧nb k_ v340)) (HO346.out) (fun k_ hk=>⟨⟨hk.1.1,hk.1.2⟩,hk.2⟩))))
            (case aB=>exact (by repeat (first|(with_reducible first|exact HB.out|apply ba|apply bb|apply bc|refine below_set ?_ (IsS56.ge HI330.out))|exact HB.out)))
            (case aF=>exact (fun k_ hk=>⟨rh (Kd.N_lt (by (with_reducible repeat (first|apply na|apply nd_|apply ne_));exact HO336.out)) k_ hk,IsS56.fresh (by repeat (first|(with_reducible first|exact HI330.out|apply IsS56.alloc|apply IsS56.drewN|apply IsS56.drew|apply IsS56.set_1)|exact HI330.out)) k_ hk⟩))
            (case aO=>exact (by (with_reducible repeat (first|apply na|apply nd_|apply ne_));exact Kd.N_mono HO341.out (fun _ hk=>⟨hk.2.1,hk.2.2⟩)))
            (case aS=>exact (below_size (by repeat (first|(with_reducible first|exact HB.out|apply ba|apply bb|apply bc|refine below_set ?_ (IsS56.ge HI330.out))|exact HB.out))))
            (case aL=>have:=LMc9.out;omega)
            intro v348 w35 ho hb hg hat
            rw [← Ny347.out] at ho
            have n0_:=A_ (IsS56.grown (by repeat (first|(with_reducible first|exact HI330.out|apply IsS56.alloc|apply IsS56.drewN|apply IsS56.drew|apply IsS56.set_1)|exact HI330.out)) hg (IsS56.own_neN HI330.out HO341.out (by decide)))
            have n1_:=A_ (Kd.N_afterv (ok:=(fun k_=>nb k_ (.slice Ao31 t334.length co31)∧k_≠g330)) (by (with_reducible repeat (first|apply na|apply nd_|apply ne_));exact HO333.out) hg hat)
            have n2_:=A_ (Kd.N_afterv (ok:=(fun k_=>nb k_ (.slice Ao26 t331.length co26)∧k_≠g330)) (by (with_reducible repeat (first|apply na|apply nd_|apply ne_));exact HO336.out) hg hat)
            have n3_:=A_ (Kd.V_afterv (ok:=(fun k_=>nb k_ (.slice Ao31 t334.length co31)∧k_≠g330)) (by (with_reducible repeat (first|apply Kd.V_alloc|apply Kd.V_drewN|apply Kd.V_drew));exact HO346.out) hg hat)
            have n4_:=A_ (Kd.V_afterv (ok:=(fun k_=>nb k_ (.slice Ao31 t334.length co31)∧k_≠g330)) (by (with_reducible repeat (first|apply Kd.V_alloc|apply Kd.V_drewN|apply Kd.V_drew));exact HO354.out) hg hat)
            have n5_:=A_ (Kd.V_afterv (ok:=(fun k_=>nb k_ (.slice Ao26 t331.length co26)∧k_≠g330)) (by (with_reducible repeat (first|apply Kd.V_alloc|apply Kd.V_drewN|apply Kd.V_drew));exact HO365.out) hg hat)
            have n6_:=A_ (Kd.V_afterv (ok:=(fun k_=>nb k_ (.slice Ao26 t331.length co26)∧k_≠g330)) (by (with_reducible repeat (first|apply Kd.V_alloc|apply Kd.V_drewN|apply Kd.V_drew));exact HO373.out) hg hat)
            have n7_:=A_ (hb)
            have n8_:=A_ (ho)
            clear HI330
            clear HO333
            clear HO336
            clear HO346
            clear HO354
            clear HO365
            clear HO373
            clear HB
            clear HO341
            have HI330:=n0_
            have HO333:=n1_
            have HO336:=n2_
            have HO346:=n3_
            have HO354:=n4_
            have HO365:=n5_
            have HO373:=n6_
            have HB:=n7_
            have HO349:=n8_
            clear n0_ n1_ n2_ n3_ n4_ n5_ n6_ n7_ n8_
            clear ho hb hg hat
            refine hK.out _ _ trivial (fun hHeld=>?_)
            clear hK K
            refine norm_ (a':=?_) ?_ ?_
            rotate_left
            ·
             show Act.put _ (some 43) _ = _
             simp only [Act.put,sa,sb,sc,i64_w,i32_w]
             rfl
            refine two_ (i:=8) (j:=9) (Ni:=some 47) (Nj:=some 48) #[true,true,true,true,true,true,true,true,true,false,true,true,true,false,true,true,true,false,false,false] #[true,true,true,true,true,true,true,true,false,true,true,true,true,false,true,true,true,false,false,false] rfl rfl rfl rfl (two_of HT_.out (by kernel_rfl)) (by decide) (by decide) (fun K hK=>?_) (fun K hK=>?_)
            ·
             skip
             refine Kd.N_append_rows_step (Kd.slice 3 (Kd.int .i64)) (w0:=w) w.heap.size (by rfl) (.tmp 43) (.tmp 46) 23 22 (.slice none 0 0) 24 rfl Try.underlying23 info22 rfl (by decide) (by omega) v348 y347 y350 _ _ _ (fun k_=>nb k_ (.slice Ao31 t334.length co31)∧k_≠g330) (fun k_=>((fun k_=>nb k_ (.slice Ao31 t334.length co31)∧k_≠g330)) k_∧nb k_ v348) rfl rfl ?aO ?aR (fun _ hk=>hk) ?aF ?aB ?aS ?aL ?_
             (case aR=>exact (by skip;exact Kd.V_F (Kd.V_mono (ok':=(fun k_=>((fun k_=>nb k_ (.slice Ao31 t334.length co31)∧k_≠g330)) k_∧nb k_ v348)) (HO354.out) (fun k_ hk=>⟨⟨hk.1.1,hk.1.2⟩,hk.2⟩))))
             (case aB=>exact (by repeat (first|(with_reducible first|exact HB.out|apply ba|apply bb|apply bc|refine below_set ?_ (IsS56.ge HI330.out))|exact HB.out)))
             (case aF=>exact (fun k_ hk=>⟨rh (Kd.N_lt (by (with_reducible repeat (first|apply na|apply nd_|apply ne_));exact HO336.out)) k_ hk,IsS56.fresh (by repeat (first|(with_reducible first|exact HI330.out|apply IsS56.alloc|apply IsS56.drewN|apply IsS56.drew|apply IsS56.set_1)|exact HI330.out)) k_ hk⟩))
             (case aO=>exact (by (with_reducible repeat (first|apply na|apply nd_|apply ne_));exact HO349.out))
             (case aS=>exact (below_size (by repeat (first|(with_reducible first|exact HB.out|apply ba|apply bb|apply bc|refine below_set ?_ (IsS56.ge HI330.out))|exact HB.out))))
             (case aL=>have:=LMc12.out;omega)
             intro v356 w36 ho hb hg hat
             rw [← Ny355.out] at ho
             have n0_:=A_ (IsS56.grown (by repeat (first|(with_reducible first|exact HI330.out|apply IsS56.alloc|apply IsS56.drewN|apply IsS56.drew|apply IsS56.set_1)|exact HI330.out)) hg (IsS56.own_neN HI330.out HO349.out (by decide)))
             have n1_:=A_ (Kd.N_afterv (ok:=(fun k_=>nb k_ (.slice Ao31 t334.length co31)∧k_≠g330)) (by (with_reducible repeat (first|apply na|apply nd_|apply ne_));exact HO333.out) hg hat)
             have n2_:=A_ (Kd.N_afterv (ok:=(fun k_=>nb k_ (.slice Ao26 t331.length co26)∧k_≠g330)) (by (with_reducible repeat (first|apply na|apply nd_|apply ne_));exact HO336.out) hg hat)
             have n3_:=A_ (Kd.V_afterv (ok:=(fun k_=>nb k_ (.slice Ao31 t334.length co31)∧k_≠g330)) (by (with_reducible repeat (first|apply Kd.V_alloc|apply Kd.V_drewN|apply Kd.V_drew));exact HO346.out) hg hat)
             have n4_:=A_ (Kd.V_afterv (ok:=(fun k_=>nb k_ (.slice Ao31 t334.length co31)∧k_≠g330)) (by (with_reducible repeat (first|apply Kd.V_alloc|apply Kd.V_drewN|apply Kd.V_drew));exact HO354.out) hg hat)
             have n5_:=A_ (Kd.V_afterv (ok:=(fun k_=>nb k_ (.slice Ao26 t331.length co26)∧k_≠g330)) (by (with_reducible repeat (first|apply Kd.V_alloc|apply Kd.V_drewN|apply Kd.V_drew));exact HO365.out) hg hat)
             have n6_:=A_ (Kd.V_afterv (ok:=(fun k_=>nb k_ (.slice Ao26 t331.length co26)∧k_≠g330)) (by (with_reducible repeat (first|apply Kd.V_alloc|apply Kd.V_drewN|apply Kd.V_drew));exact HO373.out) hg hat)
             have n7_:=A_ (hb)
             have n8_:=A_ (ho)
             clear HI330
             clear HO333
             clear HO336
             clear HO346
             clear HO354
             clear HO365
             clear HO373
             clear HB
             clear HO349
             have HI330:=n0_
             have HO333:=n1_
             have HO336:=n2_
             have HO346:=n3_
             have HO354:=n4_
             have HO365:=n5_
             have HO373:=n6_
             have HB:=n7_
             have HO357:=n8_
             clear n0_ n1_ n2_ n3_ n4_ n5_ n6_ n7_ n8_
             clear ho hb hg hat
             refine hK.out _ _ trivial (fun hHeld=>?_)
             clear hK K
             refine norm_ (a':=?_) ?_ ?_
             rotate_left
             ·
              show Act.put _ (some 47) _ = _
              simp only [Act.put,sa,sb,sc,i64_w,i32_w]
              rfl
             refine one_ (i:=9) (N:=some 48) #[true,true,true,true,true,true,true,true,true,true,true,true,true,false,true,true,true,false,false,false] rfl rfl (one_of HT_.out (by kernel_rfl)) (by decide) (fun K hK=>?_)
             refine Kd.N_lit_step (Kd.slice 3 (Kd.int .i64)) _ 22 ?hg (N':=48) ?hd (xs:=([] : List (List Int))) (inner:=[]) (ok:=(fun k_=>nb k_ (.slice Ao26 t331.length co26)∧nb k_ (.slice Ao31 t334.length co31)∧nb k_ v356∧k_≠g330)) (okp:=(fun k_=>nb k_ (.slice Ao26 t331.length co26)∧nb k_ (.slice Ao31 t334.length co31)∧nb k_ v356∧k_≠g330)) ?hr ?hp (fun _ hk=>hk) ((show ∀ k_,w36.heap.size ≤ k_ → (fun k_=>nb k_ (.slice Ao26 t331.length co26)∧nb k_ (.slice Ao31 t334.length co31)∧nb k_ v356∧k_≠g330) k_ from fun k_ hk=>⟨rh (Kd.N_lt (by (with_reducible repeat (first|apply na|apply nd_|apply ne_));exact HO333.out)) k_ hk,rh (Kd.N_lt (by (with_reducible repeat (first|apply na|apply nd_|apply ne_));exact HO336.out)) k_ hk,rh (Kd.N_lt (by (with_reducible repeat (first|apply na|apply nd_|apply ne_));exact HO357.out)) k_ hk,IsS56.fresh (by repeat (first|(with_reducible first|exact HI330.out|apply IsS56.alloc|apply IsS56.drewN|apply IsS56.drew|apply IsS56.set_1)|exact HI330.out)) k_ hk⟩) _ (Nat.le_refl _)) (Below.refl _ _) (Nat.le_refl _) (by simp) ?_;(case hd=>rfl);(case hg=>rfl);(case hr=>first|(go_simp;done)|(go_simp;rfl));(case hp=>exact (Reps.none _ _))
             intro v359 w37 ho38 hb hg_ hnew_
             clear hg_ hnew_
             (first|rw [← Ny358.out] at ho38|(simp only [Int.reduceToNat] at ho38;rw [← Ny358.out] at ho38))
             have n0_:=A_ (Kd.N_elder' (by (with_reducible repeat (first|apply na|apply nd_|apply ne_));exact HO333.out) (Kd.N_base ho38) hb)
             have n1_:=A_ (Kd.N_elder' (by (with_reducible repeat (first|apply na|apply nd_|apply ne_));exact HO336.out) (Kd.N_base ho38) hb)
             have n2_:=A_ (Kd.V_elder' (by (with_reducible repeat (first|apply Kd.V_alloc|apply Kd.V_drewN|apply Kd.V_drew));exact HO346.out) (Kd.N_base ho38) hb)
             have n3_:=A_ (Kd.V_elder' (by (with_reducible repeat (first|apply Kd.V_alloc|apply Kd.V_drewN|apply Kd.V_drew));exact HO354.out) (Kd.N_base ho38) hb)
             have n4_:=A_ (Kd.V_elder' (by (with_reducible repeat (first|apply Kd.V_alloc|apply Kd.V_drewN|apply Kd.V_drew));exact HO365.out) (Kd.N_base ho38) hb)
             have n5_:=A_ (Kd.V_elder' (by (with_reducible repeat (first|apply Kd.V_alloc|apply Kd.V_drewN|apply Kd.V_drew));exact HO373.out) (Kd.N_base ho38) hb)
             have n6_:=A_ (Kd.N_elder' (by (with_reducible repeat (first|apply na|apply nd_|apply ne_));exact HO357.out) (Kd.N_base ho38) hb)
             have n7_:=A_ (Kd.N_lower ho38 (below_size (by repeat (first|(with_reducible first|exact HB.out|apply ba|apply bb|apply bc|refine below_set ?_ (IsS56.ge HI330.out))|exact HB.out))))
             have n8_:=A_ (IsS56.below (by repeat (first|(with_reducible first|exact HI330.out|apply IsS56.alloc|apply IsS56.drewN|apply IsS56.drew|apply IsS56.set_1)|exact HI330.out)) hb)
             have n9_:=A_ (below_step (by repeat (first|(with_reducible first|exact HB.out|apply ba|apply bb|apply bc|refine below_set ?_ (IsS56.ge HI330.out))|exact HB.out)) hb)
             clear HO333
             clear HO336
             clear HO346
             clear HO354
             clear HO365
             clear HO373
             clear HO357
             clear HI330
             clear HB
             have HO333:=n0_
             have HO336:=n1_
             have HO346:=n2_
             have HO354:=n3_
             have HO365:=n4_
             have HO373:=n5_
             have HO357:=n6_
             have HO360:=n7_
             have HI330:=n8_
             have HB:=n9_
             clear n0_ n1_ n2_ n3_ n4_ n5_ n6_ n7_ n8_ n9_
             clear hb ho38
             refine hK.out _ _ trivial (fun hHeld=>?_)
             clear hK K
             refine norm_ (a':=?_) ?_ ?_
             rotate_left
             ·
              show Act.put _ (some 48) _ = _
              simp only [Act.put,sa,sb,sc,i64_w,i32_w]
              rfl
             exact norm_ (by simp only [putAll,Act.put,List.setIfInBounds_toArray,List.set_cons_zero,List.set_cons_succ]) (hCont (v340,v348,v356,v359) _ ⟨(by (with_reducible repeat (first|apply na|apply nd_|apply ne_));exact Kd.N_mono HO333.out (fun _ hk=>⟨hk.1.1.1,⟨hk.1.2,⟨hk.2,hk.1.1.2⟩⟩⟩)),(by (with_reducible repeat (first|apply na|apply nd_|apply ne_));exact Kd.N_mono HO336.out (fun _ hk=>⟨hk.1.1.1,⟨hk.1.2,⟨hk.2,hk.1.1.2⟩⟩⟩)),(by (with_reducible repeat (first|apply Kd.V_alloc|apply Kd.V_drewN|apply Kd.V_drew));exact Kd.V_mono HO346.out (fun _ hk=>⟨hk.1.1.1,⟨hk.1.2,⟨hk.2,hk.1.1.2⟩⟩⟩)),(by (with_reducible repeat (first|apply Kd.V_alloc|apply Kd.V_drewN|apply Kd.V_drew));exact Kd.V_mono HO354.out (fun _ hk=>⟨hk.1.1.1,⟨hk.1.2,⟨hk.2,hk.1.1.2⟩⟩⟩)),(by (with_reducible repeat (first|apply na|apply nd_|apply ne_));exact Kd.N_mono HO357.out (fun _ hk=>⟨hk.1.1,⟨hk.2,hk.1.2⟩⟩)),(by (with_reducible repeat (first|apply na|apply nd_|apply ne_));exact HO360.out),(by (with_reducible repeat (first|apply Kd.V_alloc|apply Kd.V_drewN|apply Kd.V_drew));exact Kd.V_mono HO365.out (fun _ hk=>⟨hk.1.1.1,⟨hk.1.2,⟨hk.2,hk.1.1.2⟩⟩⟩)),(by (with_reducible repeat (first|apply Kd.V_alloc|apply Kd.V_drewN|apply Kd.V_drew));exact Kd.V_mono HO373.out (fun _ hk=>⟨hk.1.1.1,⟨hk.1.2,⟨hk.2,hk.1.1.2⟩⟩⟩)),(by repeat (first|(with_reducible first|exact HI330.out|apply IsS56.alloc|apply IsS56.drewN|apply IsS56.drew|apply IsS56.set_1)|exact HI330.out)),(by repeat (first|(with_reducible first|exact HB.out|apply ba|apply bb|apply bc|refine below_set ?_ (IsS56.ge HI330.out))|exact HB.out))⟩)
            ·
             skip
             refine Kd.N_lit_step (Kd.slice 3 (Kd.int .i64)) _ 22 ?hg (N':=48) ?hd (xs:=([] : List (List Int))) (inner:=[]) (ok:=(fun k_=>nb k_ (.slice Ao26 t331.length co26)∧nb k_ (.slice Ao31 t334.length co31)∧nb k_ v348∧k_≠g330)) (okp:=(fun k_=>nb k_ (.slice Ao26 t331.length co26)∧nb k_ (.slice Ao31 t334.length co31)∧nb k_ v348∧k_≠g330)) ?hr ?hp (fun _ hk=>hk) ((show ∀ k_,w35.heap.size ≤ k_ → (fun k_=>nb k_ (.slice Ao26 t331.length co26)∧nb k_ (.slice Ao31 t334.length co31)∧nb k_ v348∧k_≠g330) k_ from fun k_ hk=>⟨rh (Kd.N_lt (by (with_reducible repeat (first|apply na|apply nd_|apply ne_));exact HO333.out)) k_ hk,rh (Kd.N_lt (by (with_reducible repeat (first|apply na|apply nd_|apply ne_));exact HO336.out)) k_ hk,rh (Kd.N_lt (by (with_reducible repeat (first|apply na|apply nd_|apply ne_));exact HO349.out)) k_ hk,IsS56.fresh (by repeat (first|(with_reducible first|exact HI330.out|apply IsS56.alloc|apply IsS56.drewN|apply IsS56.drew|apply IsS56.set_1)|exact HI330.out)) k_ hk⟩) _ (Nat.le_refl _)) (Below.refl _ _) (Nat.le_refl _) (by simp) ?_;(case hd=>rfl);(case hg=>rfl);(case hr=>first|(go_simp;done)|(go_simp;rfl));(case hp=>exact (Reps.none _ _))
             intro v359 w36 ho37 hb hg_ hnew_
             clear hg_ hnew_
             (first|rw [← Ny358.out] at ho37|(simp only [Int.reduceToNat] at ho37;rw [← Ny358.out] at ho37))
             have n0_:=A_ (Kd.N_elder' (by (with_reducible repeat (first|apply na|apply nd_|apply ne_));exact HO333.out) (Kd.N_base ho37) hb)
             have n1_:=A_ (Kd.N_elder' (by (with_reducible repeat (first|apply na|apply nd_|apply ne_));exact HO336.out) (Kd.N_base ho37) hb)
             have n2_:=A_ (Kd.V_elder' (by (with_reducible repeat (first|apply Kd.V_alloc|apply Kd.V_drewN|apply Kd.V_drew));exact HO346.out) (Kd.N_base ho37) hb)
             have n3_:=A_ (Kd.V_elder' (by (with_reducible repeat (first|apply Kd.V_alloc|apply Kd.V_drewN|apply Kd.V_drew));exact HO354.out) (Kd.N_base ho37) hb)
             have n4_:=A_ (Kd.V_elder' (by (with_reducible repeat (first|apply Kd.V_alloc|apply Kd.V_drewN|apply Kd.V_drew));exact HO365.out) (Kd.N_base ho37) hb)
             have n5_:=A_ (Kd.V_elder' (by (with_reducible repeat (first|apply Kd.V_alloc|apply Kd.V_drewN|apply Kd.V_drew));exact HO373.out) (Kd.N_base ho37) hb)
             have n6_:=A_ (Kd.N_elder' (by (with_reducible repeat (first|apply na|apply nd_|apply ne_));exact HO349.out) (Kd.N_base ho37) hb)
             have n7_:=A_ (Kd.N_lower ho37 (below_size (by repeat (first|(with_reducible first|exact HB.out|apply ba|apply bb|apply bc|refine below_set ?_ (IsS56.ge HI330.out))|exact HB.out))))
             have n8_:=A_ (IsS56.below (by repeat (first|(with_reducible first|exact HI330.out|apply IsS56.alloc|apply IsS56.drewN|apply IsS56.drew|apply IsS56.set_1)|exact HI330.out)) hb)
             have n9_:=A_ (below_step (by repeat (first|(with_reducible first|exact HB.out|apply ba|apply bb|apply bc|refine below_set ?_ (IsS56.ge HI330.out))|exact HB.out)) hb)
             clear HO333
             clear HO336
             clear HO346
             clear HO354
             clear HO365
             clear HO373
             clear HO349
             clear HI330
             clear HB
             have HO333:=n0_
             have HO336:=n1_
             have HO346:=n2_
             have HO354:=n3_
             have HO365:=n4_
             have HO373:=n5_
             have HO349:=n6_
             have HO360:=n7_
             have HI330:=n8_
             have HB:=n9_
             clear n0_ n1_ n2_ n3_ n4_ n5_ n6_ n7_ n8_ n9_
             clear hb ho37
             refine hK.out _ _ trivial (fun hHeld=>?_)
             clear hK K
             refine norm_ (a':=?_) ?_ ?_
             rotate_left
             ·
              show Act.put _ (some 48) _ = _
              simp only [Act.put,sa,sb,sc,i64_w,i32_w]
              rfl
             refine one_ (i:=8) (N:=some 47) #[true,true,true,true,true,true,true,true,true,true,true,true,true,false,true,true,true,false,false,false] rfl rfl (one_of HT_.out (by kernel_rfl)) (by decide) (fun K hK=>?_)
             refine Kd.N_append_rows_step (Kd.slice 3 (Kd.int .i64)) (w0:=w) w.heap.size (by rfl) (.tmp 43) (.tmp 46) 23 22 (.slice none 0 0) 24 rfl Try.underlying23 info22 rfl (by decide) (by omega) v348 y347 y350 _ _ _ (fun k_=>nb k_ (.slice Ao31 t334.length co31)∧nb k_ v359∧k_≠g330) (fun k_=>((fun k_=>nb k_ (.slice Ao31 t334.length co31)∧nb k_ v359∧k_≠g330)) k_∧nb k_ v348) rfl rfl ?aO ?aR (fun _ hk=>hk) ?aF ?aB ?aS ?aL ?_
             (case aR=>exact (by skip;exact Kd.V_F (Kd.V_mono (ok':=(fun k_=>((fun k_=>nb k_ (.slice Ao31 t334.length co31)∧nb k_ v359∧k_≠g330)) k_∧nb k_ v348)) (HO354.out) (fun k_ hk=>⟨⟨hk.1.1.1,⟨hk.2,hk.1.1.2⟩⟩,hk.1.2⟩))))
             (case aB=>exact (by repeat (first|(with_reducible first|exact HB.out|apply ba|apply bb|apply bc|refine below_set ?_ (IsS56.ge HI330.out))|exact HB.out)))
             (case aF=>exact (fun k_ hk=>⟨rh (Kd.N_lt (by (with_reducible repeat (first|apply na|apply nd_|apply ne_));exact HO336.out)) k_ hk,rh (Kd.N_lt (by (with_reducible repeat (first|apply na|apply nd_|apply ne_));exact HO360.out)) k_ hk,IsS56.fresh (by repeat (first|(with_reducible first|exact HI330.out|apply IsS56.alloc|apply IsS56.drewN|apply IsS56.drew|apply IsS56.set_1)|exact HI330.out)) k_ hk⟩))
             (case aO=>exact (by (with_reducible repeat (first|apply na|apply nd_|apply ne_));exact Kd.N_mono HO349.out (fun _ hk=>⟨hk.1.1,⟨hk.2,hk.1.2⟩⟩)))
             (case aS=>exact (below_size (by repeat (first|(with_reducible first|exact HB.out|apply ba|apply bb|apply bc|refine below_set ?_ (IsS56.ge HI330.out))|exact HB.out))))
             (case aL=>have:=LMc12.out;omega)
             intro v356 w38 ho hb hg hat
             rw [← Ny355.out] at ho
             have n0_:=A_ (IsS56.grown (by repeat (first|(with_reducible first|exact HI330.out|apply IsS56.alloc|apply IsS56.drewN|apply IsS56.drew|apply IsS56.set_1)|exact HI330.out)) hg (IsS56.own_neN HI330.out HO349.out (by decide)))
             have n1_:=A_ (Kd.N_afterv (ok:=(fun k_=>nb k_ (.slice Ao31 t334.length co31)∧nb k_ v359∧k_≠g330)) (by (with_reducible repeat (first|apply na|apply nd_|apply ne_));exact Kd.N_mono HO333.out (fun _ hk=>⟨⟨hk.1.1.1,⟨hk.2,hk.1.1.2⟩⟩,hk.1.2⟩)) hg hat)
             have n2_:=A_ (Kd.N_afterv (ok:=(fun k_=>nb k_ (.slice Ao26 t331.length co26)∧nb k_ v359∧k_≠g330)) (by (with_reducible repeat (first|apply na|apply nd_|apply ne_));exact Kd.N_mono HO336.out (fun _ hk=>⟨⟨hk.1.1.1,⟨hk.2,hk.1.1.2⟩⟩,hk.1.2⟩)) hg hat)
             have n3_:=A_ (Kd.V_afterv (ok:=(fun k_=>nb k_ (.slice Ao31 t334.length co31)∧nb k_ v359∧k_≠g330)) (by (with_reducible repeat (first|apply Kd.V_alloc|apply Kd.V_drewN|apply Kd.V_drew));exact Kd.V_mono HO346.out (fun _ hk=>⟨⟨hk.1.1.1,⟨hk.2,hk.1.1.2⟩⟩,hk.1.2⟩)) hg hat)
             have n4_:=A_ (Kd.V_afterv (ok:=(fun k_=>nb k_ (.slice Ao31 t334.length co31)∧nb k_ v359∧k_≠g330)) (by (with_reducible repeat (first|apply Kd.V_alloc|apply Kd.V_drewN|apply Kd.V_drew));exact Kd.V_mono HO354.out (fun _ hk=>⟨⟨hk.1.1.1,⟨hk.2,hk.1.1.2⟩⟩,hk.1.2⟩)) hg hat)
             have n5_:=A_ (Kd.V_afterv (ok:=(fun k_=>nb k_ (.slice Ao26 t331.length co26)∧nb k_ v359∧k_≠g330)) (by (with_reducible repeat (first|apply Kd.V_alloc|apply Kd.V_drewN|apply Kd.V_drew));exact Kd.V_mono HO365.out (fun _ hk=>⟨⟨hk.1.1.1,⟨hk.2,hk.1.1.2⟩⟩,hk.1.2⟩)) hg hat)
             have n6_:=A_ (Kd.V_afterv (ok:=(fun k_=>nb k_ (.slice Ao26 t331.length co26)∧nb k_ v359∧k_≠g330)) (by (with_reducible repeat (first|apply Kd.V_alloc|apply Kd.V_drewN|apply Kd.V_drew));exact Kd.V_mono HO373.out (fun _ hk=>⟨⟨hk.1.1.1,⟨hk.2,hk.1.1.2⟩⟩,hk.1.2⟩)) hg hat)
             have n7_:=A_ (Kd.N_afterv (ok:=(fun k_=>nb k_ (.slice Ao26 t331.length co26)∧nb k_ (.slice Ao31 t334.length co31)∧k_≠g330)) (by (with_reducible repeat (first|apply na|apply nd_|apply ne_));exact Kd.N_mono HO360.out (fun _ hk=>⟨⟨hk.1,⟨hk.2.1,hk.2.2.2⟩⟩,hk.2.2.1⟩)) hg hat)
             have n8_:=A_ (hb)
             have n9_:=A_ (ho)
             clear HI330
             clear HO333
             clear HO336
             clear HO346
             clear HO354
             clear HO365
             clear HO373
             clear HO360
             clear HB
             clear HO349
             have HI330:=n0_
             have HO333:=n1_
             have HO336:=n2_
             have HO346:=n3_
             have HO354:=n4_
             have HO365:=n5_
             have HO373:=n6_
             have HO360:=n7_
             have HB:=n8_
             have HO357:=n9_
             clear n0_ n1_ n2_ n3_ n4_ n5_ n6_ n7_ n8_ n9_
             clear ho hb hg hat
             refine hK.out _ _ trivial (fun hHeld=>?_)
             clear hK K
             refine norm_ (a':=?_) ?_ ?_
             rotate_left
             ·
              show Act.put _ (some 47) _ = _
              simp only [Act.put,sa,sb,sc,i64_w,i32_w]
              rfl
             exact norm_ (by simp only [putAll,Act.put,List.setIfInBounds_toArray,List.set_cons_zero,List.set_cons_succ]) (hCont (v340,v348,v356,v359) _ ⟨(by (with_reducible repeat (first|apply na|apply nd_|apply ne_));exact Kd.N_mono HO333.out (fun _ hk=>⟨hk.1.1,⟨hk.2,⟨hk.1.2.1,hk.1.2.2⟩⟩⟩)),(by (with_reducible repeat (first|apply na|apply nd_|apply ne_));exact Kd.N_mono HO336.out (fun _ hk=>⟨hk.1.1,⟨hk.2,⟨hk.1.2.1,hk.1.2.2⟩⟩⟩)),(by (with_reducible repeat (first|apply Kd.V_alloc|apply Kd.V_drewN|apply Kd.V_drew));exact Kd.V_mono HO346.out (fun _ hk=>⟨hk.1.1,⟨hk.2,⟨hk.1.2.1,hk.1.2.2⟩⟩⟩)),(by (with_reducible repeat (first|apply Kd.V_alloc|apply Kd.V_drewN|apply Kd.V_drew));exact Kd.V_mono HO354.out (fun _ hk=>⟨hk.1.1,⟨hk.2,⟨hk.1.2.1,hk.1.2.2⟩⟩⟩)),(by (with_reducible repeat (first|apply na|apply nd_|apply ne_));exact HO357.out),(by (with_reducible repeat (first|apply na|apply nd_|apply ne_));exact Kd.N_mono HO360.out (fun _ hk=>⟨hk.1.1,⟨hk.1.2.1,⟨hk.2,hk.1.2.2⟩⟩⟩)),(by (with_reducible repeat (first|apply Kd.V_alloc|apply Kd.V_drewN|apply Kd.V_drew));exact Kd.V_mono HO365.out (fun _ hk=>⟨hk.1.1,⟨hk.2,⟨hk.1.2.1,hk.1.2.2⟩⟩⟩)),(by (with_reducible repeat (first|apply Kd.V_alloc|apply Kd.V_drewN|apply Kd.V_drew));exact Kd.V_mono HO373.out (fun _ hk=>⟨hk.1.1,⟨hk.2,⟨hk.1.2.1,hk.1.2.2⟩⟩⟩)),(by repeat (first|(with_reducible first|exact HI330.out|apply IsS56.alloc|apply IsS56.drewN|apply IsS56.drew|apply IsS56.set_1)|exact HI330.out)),(by repeat (first|(with_reducible first|exact HB.out|apply ba|apply bb|apply bc|refine below_set ?_ (IsS56.ge HI330.out))|exact HB.out))⟩)
           ·
            skip
            refine Kd.N_lit_step (Kd.slice 3 (Kd.int .i64)) _ 22 ?hg (N':=48) ?hd (xs:=([] : List (List Int))) (inner:=[]) (ok:=(fun k_=>nb k_ (.slice Ao26 t331.length co26)∧nb k_ (.slice Ao31 t334.length co31)∧nb k_ v340∧k_≠g330)) (okp:=(fun k_=>nb k_ (.slice Ao26 t331.length co26)∧nb k_ (.slice Ao31 t334.length co31)∧nb k_ v340∧k_≠g330)) ?hr ?hp (fun _ hk=>hk) ((show ∀ k_,w33.heap.size ≤ k_ → (fun k_=>nb k_ (.slice Ao26 t331.length co26)∧nb k_ (.slice Ao31 t334.length co31)∧nb k_ v340∧k_≠g330) k_ from fun k_ hk=>⟨rh (Kd.N_lt (by (with_reducible repeat (first|apply na|apply nd_|apply ne_));exact HO333.out)) k_ hk,rh (Kd.N_lt (by (with_reducible repeat (first|apply na|apply nd_|apply ne_));exact HO336.out)) k_ hk,rh (Kd.N_lt (by (with_reducible repeat (first|apply na|apply nd_|apply ne_));exact HO341.out)) k_ hk,IsS56.fresh (by repeat (first|(with_reducible first|exact HI330.out|apply IsS56.alloc|apply IsS56.drewN|apply IsS56.drew|apply IsS56.set_1)|exact HI330.out)) k_ hk⟩) _ (Nat.le_refl _)) (Below.refl _ _) (Nat.le_refl _) (by simp) ?_;(case hd=>rfl);(case hg=>rfl);(case hr=>first|(go_simp;done)|(go_simp;rfl));(case hp=>exact (Reps.none _ _))
            intro v359 w35 ho36 hb hg_ hnew_
            clear hg_ hnew_
            (first|rw [← Ny358.out] at ho36|(simp only [Int.reduceToNat] at ho36;rw [← Ny358.out] at ho36))
            have n0_:=A_ (Kd.N_elder' (by (with_reducible repeat (first|apply na|apply nd_|apply ne_));exact HO333.out) (Kd.N_base ho36) hb)
            have n1_:=A_ (Kd.N_elder' (by (with_reducible repeat (first|apply na|apply nd_|apply ne_));exact HO336.out) (Kd.N_base ho36) hb)
            have n2_:=A_ (Kd.V_elder' (by (with_reducible repeat (first|apply Kd.V_alloc|apply Kd.V_drewN|apply Kd.V_drew));exact HO346.out) (Kd.N_base ho36) hb)
            have n3_:=A_ (Kd.V_elder' (by (with_reducible repeat (first|apply Kd.V_alloc|apply Kd.V_drewN|apply Kd.V_drew));exact HO354.out) (Kd.N_base ho36) hb)
            have n4_:=A_ (Kd.V_elder' (by (with_reducible repeat (first|apply Kd.V_alloc|apply Kd.V_drewN|apply Kd.V_drew));exact HO365.out) (Kd.N_base ho36) hb)
            have n5_:=A_ (Kd.V_elder' (by (with_reducible repeat (first|apply Kd.V_alloc|apply Kd.V_drewN|apply Kd.V_drew));exact HO373.out) (Kd.N_base ho36) hb)
            have n6_:=A_ (Kd.N_elder' (by (with_reducible repeat (first|apply na|apply nd_|apply ne_));exact HO341.out) (Kd.N_base ho36) hb)
            have n7_:=A_ (Kd.N_lower ho36 (below_size (by repeat (first|(with_reducible first|exact HB.out|apply ba|apply bb|apply bc|refine below_set ?_ (IsS56.ge HI330.out))|exact HB.out))))
            have n8_:=A_ (IsS56.below (by repeat (first|(with_reducible first|exact HI330.out|apply IsS56.alloc|apply IsS56.drewN|apply IsS56.drew|apply IsS56.set_1)|exact HI330.out)) hb)
            have n9_:=A_ (below_step (by repeat (first|(with_reducible first|exact HB.out|apply ba|apply bb|apply bc|refine below_set ?_ (IsS56.ge HI330.out))|exact HB.out)) hb)
            clear HO333
            clear HO336
            clear HO346
            clear HO354
            clear HO365
            clear HO373
            clear HO341
            clear HI330
            clear HB
            have HO333:=n0_
            have HO336:=n1_
            have HO346:=n2_
            have HO354:=n3_
            have HO365:=n4_
            have HO373:=n5_
            have HO341:=n6_
            have HO360:=n7_
            have HI330:=n8_
            have HB:=n9_
            clear n0_ n1_ n2_ n3_ n4_ n5_ n6_ n7_ n8_ n9_
            clear hb ho36
            refine hK.out _ _ trivial (fun hHeld=>?_)
            clear hK K
            refine norm_ (a':=?_) ?_ ?_
            rotate_left
            ·
             show Act.put _ (some 48) _ = _
             simp only [Act.put,sa,sb,sc,i64_w,i32_w]
             rfl
            refine one_ (i:=4) (N:=some 43) #[true,true,true,true,true,true,true,true,false,true,true,true,true,false,true,true,true,false,false,false] rfl rfl (one_of HT_.out (by kernel_rfl)) (by decide) (fun K hK=>?_)
            refine Kd.N_append_rows_step (Kd.slice 3 (Kd.int .i64)) (w0:=w) w.heap.size (by rfl) (.tmp 39) (.tmp 42) 23 22 (.slice none 0 0) 24 rfl Try.underlying23 info22 rfl (by decide) (by omega) v340 y339 y342 _ _ _ (fun k_=>nb k_ (.slice Ao31 t334.length co31)∧nb k_ v359∧k_≠g330) (fun k_=>((fun k_=>nb k_ (.slice Ao31 t334.length co31)∧nb k_ v359∧k_≠g330)) k_∧nb k_ v340) rfl rfl ?aO ?aR (fun _ hk=>hk) ?aF ?aB ?aS ?aL ?_
            (case aR=>exact (by skip;exact Kd.V_F (Kd.V_mono (ok':=(fun k_=>((fun k_=>nb k_ (.slice Ao31 t334.length co31)∧nb k_ v359∧k_≠g330)) k_∧nb k_ v340)) (HO346.out) (fun k_ hk=>⟨⟨hk.1.1.1,⟨hk.2,hk.1.1.2⟩⟩,hk.1.2⟩))))
            (case aB=>exact (by repeat (first|(with_reducible first|exact HB.out|apply ba|apply bb|apply bc|refine below_set ?_ (IsS56.ge HI330.out))|exact HB.out)))
            (case aF=>exact (fun k_ hk=>⟨rh (Kd.N_lt (by (with_reducible repeat (first|apply na|apply nd_|apply ne_));exact HO336.out)) k_ hk,rh (Kd.N_lt (by (with_reducible repeat (first|apply na|apply nd_|apply ne_));exact HO360.out)) k_ hk,IsS56.fresh (by repeat (first|(with_reducible first|exact HI330.out|apply IsS56.alloc|apply IsS56.drewN|apply IsS56.drew|apply IsS56.set_1)|exact HI330.out)) k_ hk⟩))
            (case aO=>exact (by (with_reducible repeat (first|apply na|apply nd_|apply ne_));exact Kd.N_mono HO341.out (fun _ hk=>⟨hk.1.2.1,⟨hk.2,hk.1.2.2⟩⟩)))
            (case aS=>exact (below_size (by repeat (first|(with_reducible first|exact HB.out|apply ba|apply bb|apply bc|refine below_set ?_ (IsS56.ge HI330.out))|exact HB.out))))
            (case aL=>have:=LMc9.out;omega)
            intro v348 w37 ho hb hg hat
            rw [← Ny347.out] at ho
            have n0_:=A_ (IsS56.grown (by repeat (first|(with_reducible first|exact HI330.out|apply IsS56.alloc|apply IsS56.drewN|apply IsS56.drew|apply IsS56.set_1)|exact HI330.out)) hg (IsS56.own_neN HI330.out HO341.out (by decide)))
            have n1_:=A_ (Kd.N_afterv (ok:=(fun k_=>nb k_ (.slice Ao31 t334.length co31)∧nb k_ v359∧k_≠g330)) (by (with_reducible repeat (first|apply na|apply nd_|apply ne_));exact Kd.N_mono HO333.out (fun _ hk=>⟨⟨hk.1.1.1,⟨hk.2,hk.1.1.2⟩⟩,hk.1.2⟩)) hg hat)
            have n2_:=A_ (Kd.N_afterv (ok:=(fun k_=>nb k_ (.slice Ao26 t331.length co26)∧nb k_ v359∧k_≠g330)) (by (with_reducible repeat (first|apply na|apply nd_|apply ne_));exact Kd.N_mono HO336.out (fun _ hk=>⟨⟨hk.1.1.1,⟨hk.2,hk.1.1.2⟩⟩,hk.1.2⟩)) hg hat)
            have n3_:=A_ (Kd.V_afterv (ok:=(fun k_=>nb k_ (.slice Ao31 t334.length co31)∧nb k_ v359∧k_≠g330)) (by (with_reducible repeat (first|apply Kd.V_alloc|apply Kd.V_drewN|apply Kd.V_drew));exact Kd.V_mono HO346.out (fun _ hk=>⟨⟨hk.1.1.1,⟨hk.2,hk.1.1.2⟩⟩,hk.1.2⟩)) hg hat)
            have n4_:=A_ (Kd.V_afterv (ok:=(fun k_=>nb k_ (.slice Ao31 t334.length co31)∧nb k_ v359∧k_≠g330)) (by (with_reducible repeat (first|apply Kd.V_alloc|apply Kd.V_drewN|apply Kd.V_drew));exact Kd.V_mono HO354.out (fun _ hk=>⟨⟨hk.1.1.1,⟨hk.2,hk.1.1.2⟩⟩,hk.1.2⟩)) hg hat)
            have n5_:=A_ (Kd.V_afterv (ok:=(fun k_=>nb k_ (.slice Ao26 t331.length co26)∧nb k_ v359∧k_≠g330)) (by (with_reducible repeat (first|apply Kd.V_alloc|apply Kd.V_drewN|apply Kd.V_drew));exact Kd.V_mono HO365.out (fun _ hk=>⟨⟨hk.1.1.1,⟨hk.2,hk.1.1.2⟩⟩,hk.1.2⟩)) hg hat)
            have n6_:=A_ (Kd.V_afterv (ok:=(fun k_=>nb k_ (.slice Ao26 t331.length co26)∧nb k_ v359∧k_≠g330)) (by (with_reducible repeat (first|apply Kd.V_alloc|apply Kd.V_drewN|apply Kd.V_drew));exact Kd.V_mono HO373.out (fun _ hk=>⟨⟨hk.1.1.1,⟨hk.2,hk.1.1.2⟩⟩,hk.1.2⟩)) hg hat)
            have n7_:=A_ (Kd.N_afterv (ok:=(fun k_=>nb k_ (.slice Ao26 t331.length co26)∧nb k_ (.slice Ao31 t334.length co31)∧k_≠g330)) (by (with_reducible repeat (first|apply na|apply nd_|apply ne_));exact Kd.N_mono HO360.out (fun _ hk=>⟨⟨hk.1,⟨hk.2.1,hk.2.2.2⟩⟩,hk.2.2.1⟩)) hg hat)
            have n8_:=A_ (hb)
            have n9_:=A_ (ho)
            clear HI330
            clear HO333
            clear HO336
            clear HO346
            clear HO354
            clear HO365
            clear HO373
            clear HO360
            clear HB
            clear HO341
            have HI330:=n0_
            have HO333:=n1_
            have HO336:=n2_
            have HO346:=n3_
            have HO354:=n4_
            have HO365:=n5_
            have HO373:=n6_
            have HO360:=n7_
            have HB:=n8_
            have HO349:=n9_
            clear n0_ n1_ n2_ n3_ n4_ n5_ n6_ n7_ n8_ n9_
            clear ho hb hg hat
            refine hK.out _ _ trivial (fun hHeld=>?_)
            clear hK K
            refine norm_ (a':=?_) ?_ ?_
            rotate_left
            ·
             show Act.put _ (some 43) _ = _
             simp only [Act.put,sa,sb,sc,i64_w,i32_w]
             rfl
            refine one_ (i:=8) (N:=some 47) #[true,true,true,true,true,true,true,true,true,true,true,true,true,false,true,true,true,false,false,false] rfl rfl (one_of HT_.out (by kernel_rfl)) (by decide) (fun K hK=>?_)
            refine Kd.N_append_rows_step (Kd.slice 3 (Kd.int .i64)) (w0:=w) w.heap.size (by rfl) (.tmp 43) (.tmp 46) 23 22 (.slice none 0 0) 24 rfl Try.underlying23 info22 rfl (by decide) (by omega) v348 y347 y350 _ _ _ (fun k_=>nb k_ (.slice Ao31 t334.length co31)∧nb k_ v359∧k_≠g330) (fun k_=>((fun k_=>nb k_ (.slice Ao31 t334.length co31)∧nb k_ v359∧k_≠g330)) k_∧nb k_ v348) rfl rfl ?aO ?aR (fun _ hk=>hk) ?aF ?aB ?aS ?aL ?_
            (case aR=>exact (by skip;exact Kd.V_F (Kd.V_mono (ok':=(fun k_=>((fun k_=>nb k_ (.slice Ao31 t334.length co31)∧nb k_ v359∧k_≠g330)) k_∧nb k_ v348)) (HO354.out) (fun k_ hk=>⟨⟨hk.1.1,⟨hk.1.2.1,hk.1.2.2⟩⟩,hk.2⟩))))
            (case aB=>exact (by repeat (first|(with_reducible first|exact HB.out|apply ba|apply bb|apply bc|refine below_set ?_ (IsS56.ge HI330.out))|exact HB.out)))
            (case aF=>exact (fun k_ hk=>⟨rh (Kd.N_lt (by (with_reducible repeat (first|apply na|apply nd_|apply ne_));exact HO336.out)) k_ hk,rh (Kd.N_lt (by (with_reducible repeat (first|apply na|apply nd_|apply ne_));exact HO360.out)) k_ hk,IsS56.fresh (by repeat (first|(with_reducible first|exact HI330.out|apply IsS56.alloc|apply IsS56.drewN|apply IsS56.drew|apply IsS56.set_1)|exact HI330.out)) k_ hk⟩))
            (case aO=>exact (by (with_reducible repeat (first|apply na|apply nd_|apply ne_));exact HO349.out))
            (case aS=>exact (below_size (by repeat (first|(with_reducible first|exact HB.out|apply ba|apply bb|apply bc|refine below_set ?_ (IsS56.ge HI330.out))|exact HB.out))))
            (case aL=>have:=LMc12.out;omega)
            intro v356 w38 ho hb hg hat
            rw [← Ny355.out] at ho
            have n0_:=A_ (IsS56.grown (by repeat (first|(with_reducible first|exact HI330.out|apply IsS56.alloc|apply IsS56.drewN|apply IsS56.drew|apply IsS56.set_1)|exact HI330.out)) hg (IsS56.own_neN HI330.out HO349.out (by decide)))
            have n1_:=A_ (Kd.N_afterv (ok:=(fun k_=>nb k_ (.slice Ao31 t334.length co31)∧nb k_ v359∧k_≠g330)) (by (with_reducible repeat (first|apply na|apply nd_|apply ne_));exact HO333.out) hg hat)
            have n2_:=A_ (Kd.N_afterv (ok:=(fun k_=>nb k_ (.slice Ao26 t331.length co26)∧nb k_ v359∧k_≠g330)) (by (with_reducible repeat (first|apply na|apply nd_|apply ne_));exact HO336.out) hg hat)
            have n3_:=A_ (Kd.V_afterv (ok:=(fun k_=>nb k_ (.slice Ao31 t334.length co31)∧nb k_ v359∧k_≠g330)) (by (with_reducible repeat (first|apply Kd.V_alloc|apply Kd.V_drewN|apply Kd.V_drew));exact HO346.out) hg hat)
            have n4_:=A_ (Kd.V_afterv (ok:=(fun k_=>nb k_ (.slice Ao31 t334.length co31)∧nb k_ v359∧k_≠g330)) (by (with_reducible repeat (first|apply Kd.V_alloc|apply Kd.V_drewN|apply Kd.V_drew));exact HO354.out) hg hat)
            have n5_:=A_ (Kd.V_afterv (ok:=(fun k_=>nb k_ (.slice Ao26 t331.length co26)∧nb k_ v359∧k_≠g330)) (by (with_reducible repeat (first|apply Kd.V_alloc|apply Kd.V_drewN|apply Kd.V_drew));exact HO365.out) hg hat)
            have n6_:=A_ (Kd.V_afterv (ok:=(fun k_=>nb k_ (.slice Ao26 t331.length co26)∧nb k_ v359∧k_≠g330)) (by (with_reducible repeat (first|apply Kd.V_alloc|apply Kd.V_drewN|apply Kd.V_drew));exact HO373.out) hg hat)
            have n7_:=A_ (Kd.N_afterv (ok:=(fun k_=>nb k_ (.slice Ao26 t331.length co26)∧nb k_ (.slice Ao31 t334.length co31)∧k_≠g330)) (by (with_reducible repeat (first|apply na|apply nd_|apply ne_));exact HO360.out) hg hat)
            have n8_:=A_ (hb)
            have n9_:=A_ (ho)
            clear HI330
            clear HO333
            clear HO336
            clear HO346
            clear HO354
            clear HO365
            clear HO373
            clear HO360
            clear HB
            clear HO349
            have HI330:=n0_
            have HO333:=n1_
            have HO336:=n2_
            have HO346:=n3_
            have HO354:=n4_
            have HO365:=n5_
            have HO373:=n6_
            have HO360:=n7_
            have HB:=n8_
            have HO357:=n9_
            clear n0_ n1_ n2_ n3_ n4_ n5_ n6_ n7_ n8_ n9_
            clear ho hb hg hat
            refine hK.out _ _ trivial (fun hHeld=>?_)
            clear hK K
            refine norm_ (a':=?_) ?_ ?_
            rotate_left
            ·
             show Act.put _ (some 47) _ = _
             simp only [Act.put,sa,sb,sc,i64_w,i32_w]
             rfl
            exact norm_ (by simp only [putAll,Act.put,List.setIfInBounds_toArray,List.set_cons_zero,List.set_cons_succ]) (hCont (v340,v348,v356,v359) _ ⟨(by (with_reducible repeat (first|apply na|apply nd_|apply ne_));exact Kd.N_mono HO333.out (fun _ hk=>⟨hk.1.1,⟨hk.2,⟨hk.1.2.1,hk.1.2.2⟩⟩⟩)),(by (with_reducible repeat (first|apply na|apply nd_|apply ne_));exact Kd.N_mono HO336.out (fun _ hk=>⟨hk.1.1,⟨hk.2,⟨hk.1.2.1,hk.1.2.2⟩⟩⟩)),(by (with_reducible repeat (first|apply Kd.V_alloc|apply Kd.V_drewN|apply Kd.V_drew));exact Kd.V_mono HO346.out (fun _ hk=>⟨hk.1.1,⟨hk.2,⟨hk.1.2.1,hk.1.2.2⟩⟩⟩)),(by (with_reducible repeat (first|apply Kd.V_alloc|apply Kd.V_drewN|apply Kd.V_drew));exact Kd.V_mono HO354.out (fun _ hk=>⟨hk.1.1,⟨hk.2,⟨hk.1.2.1,hk.1.2.2⟩⟩⟩)),(by (with_reducible repeat (first|apply na|apply nd_|apply ne_));exact HO357.out),(by (with_reducible repeat (first|apply na|apply nd_|apply ne_));exact Kd.N_mono HO360.out (fun _ hk=>⟨hk.1.1,⟨hk.1.2.1,⟨hk.2,hk.1.2.2⟩⟩⟩)),(by (with_reducible repeat (first|apply Kd.V_alloc|apply Kd.V_drewN|apply Kd.V_drew));exact Kd.V_mono HO365.out (fun _ hk=>⟨hk.1.1,⟨hk.2,⟨hk.1.2.1,hk.1.2.2⟩⟩⟩)),(by (with_reducible repeat (first|apply Kd.V_alloc|apply Kd.V_drewN|apply Kd.V_drew));exact Kd.V_mono HO373.out (fun _ hk=>⟨hk.1.1,⟨hk.2,⟨hk.1.2.1,hk.1.2.2⟩⟩⟩)),(by repeat (first|(with_reducible first|exact HI330.out|apply IsS56.alloc|apply IsS56.drewN|apply IsS56.drew|apply IsS56.set_1)|exact HI330.out)),(by repeat (first|(with_reducible first|exact HB.out|apply ba|apply bb|apply bc|refine below_set ?_ (IsS56.ge HI330.out))|exact HB.out))⟩)
          ·
           skip
           refine Kd.N_lit_step (Kd.slice 3 (Kd.int .i64)) _ 22 ?hg (N':=48) ?hd (xs:=([] : List (List Int))) (inner:=[]) (ok:=(fun k_=>nb k_ (.slice Ao26 t331.length co26)∧nb k_ (.slice Ao31 t334.length co31)∧k_≠g330)) (okp:=(fun k_=>nb k_ (.slice Ao26 t331.length co26)∧nb k_ (.slice Ao31 t334.length co31)∧k_≠g330)) ?hr ?hp (fun _ hk=>hk) ((show ∀ k_,w27.heap.size ≤ k_ → (fun k_=>nb k_ (.slice Ao26 t331.length co26)∧nb k_ (.slice Ao31 t334.length co31)∧k_≠g330) k_ from fun k_ hk=>⟨rh (Kd.N_lt (by (with_reducible repeat (first|apply na|apply nd_|apply ne_));exact HO333.out)) k_ hk,rh (Kd.N_lt (by (with_reducible repeat (first|apply na|apply nd_|apply ne_));exact HO336.out)) k_ hk,IsS56.fresh (by repeat (first|(with_reducible first|exact HI330.out|apply IsS56.alloc|apply IsS56.drewN|apply IsS56.drew|apply IsS56.set_1)|exact HI330.out)) k_ hk⟩) _ (Nat.le_refl _)) (Below.refl _ _) (Nat.le_refl _) (by simp) ?_;(case hd=>rfl);(case hg=>rfl);(case hr=>first|(go_simp;done)|(go_simp;rfl));(case hp=>exact (Reps.none _ _))
           intro v359 w33 ho34 hb hg_ hnew_
           clear hg_ hnew_
           (first|rw [← Ny358.out] at ho34|(simp only [Int.reduceToNat] at ho34;rw [← Ny358.out] at ho34))
           have n0_:=A_ (Kd.N_elder' (by (with_reducible repeat (first|apply na|apply nd_|apply ne_));exact HO333.out) (Kd.N_base ho34) hb)
           have n1_:=A_ (Kd.N_elder' (by (with_reducible repeat (first|apply na|apply nd_|apply ne_));exact HO336.out) (Kd.N_base ho34) hb)
           have n2_:=A_ (Kd.V_elder' (by (with_reducible repeat (first|apply Kd.V_alloc|apply Kd.V_drewN|apply Kd.V_drew));exact HO346.out) (Kd.N_base ho34) hb)
           have n3_:=A_ (Kd.V_elder' (by (with_reducible repeat (first|apply Kd.V_alloc|apply Kd.V_drewN|apply Kd.V_drew));exact HO354.out) (Kd.N_base ho34) hb)
           have n4_:=A_ (Kd.V_elder' (by (with_reducible repeat (first|apply Kd.V_alloc|apply Kd.V_drewN|apply Kd.V_drew));exact HO365.out) (Kd.N_base ho34) hb)
           have n5_:=A_ (Kd.V_elder' (by (with_reducible repeat (first|apply Kd.V_alloc|apply Kd.V_drewN|apply Kd.V_drew));exact HO373.out) (Kd.N_base ho34) hb)
           have n6_:=A_ (Kd.N_lower ho34 (below_size (by repeat (first|(with_reducible first|exact HB.out|apply ba|apply bb|apply bc|refine below_set ?_ (IsS56.ge HI330.out))|exact HB.out))))
           have n7_:=A_ (IsS56.below (by repeat (first|(with_reducible first|exact HI330.out|apply IsS56.alloc|apply IsS56.drewN|apply IsS56.drew|apply IsS56.set_1)|exact HI330.out)) hb)
           have n8_:=A_ (below_step (by repeat (first|(with_reducible first|exact HB.out|apply ba|apply bb|apply bc|refine below_set ?_ (IsS56.ge HI330.out))|exact HB.out)) hb)
           clear HO333
           clear HO336
           clear HO346
           clear HO354
           clear HO365
           clear HO373
           clear HI330
           clear HB
           have HO333:=n0_
           have HO336:=n1_
           have HO346:=n2_
           have HO354:=n3_
           have HO365:=n4_
           have HO373:=n5_
           have HO360:=n6_
           have HI330:=n7_
           have HB:=n8_
           clear n0_ n1_ n2_ n3_ n4_ n5_ n6_ n7_ n8_
           clear hb ho34
           refine hK.out _ _ trivial (fun hHeld=>?_)
           clear hK K
           refine norm_ (a':=?_) ?_ ?_
           rotate_left
           ·
            show Act.put _ (some 48) _ = _
            simp only [Act.put,sa,sb,sc,i64_w,i32_w]
            rfl
           refine one_ (i:=0) (N:=some 39) #[true,true,true,true,false,true,true,true,false,true,true,true,true,false,true,true,true,false,false,false] rfl rfl (one_of HT_.out (by kernel_rfl)) (by decide) (fun K hK=>?_)
           refine Kd.N_lit_step (Kd.slice 3 (Kd.int .i64)) _ 22 ?hg (N':=39) ?hd (xs:=([] : List (List Int))) (inner:=[]) (ok:=(fun k_=>nb k_ (.slice Ao26 t331.length co26)∧nb k_ (.slice Ao31 t334.length co31)∧nb k_ v359∧k_≠g330)) (okp:=(fun k_=>nb k_ (.slice Ao26 t331.length co26)∧nb k_ (.slice Ao31 t334.length co31)∧nb k_ v359∧k_≠g330)) ?hr ?hp (fun _ hk=>hk) ((show ∀ k_,w33.heap.size ≤ k_ → (fun k_=>nb k_ (.slice Ao26 t331.length co26)∧nb k_ (.slice Ao31 t334.length co31)∧nb k_ v359∧k_≠g330) k_ from fun k_ hk=>⟨rh (Kd.N_lt (by (with_reducible repeat (first|apply na|apply nd_|apply ne_));exact HO333.out)) k_ hk,rh (Kd.N_lt (by (with_reducible repeat (first|apply na|apply nd_|apply ne_));exact HO336.out)) k_ hk,rh (Kd.N_lt (by (with_reducible repeat (first|apply na|apply nd_|apply ne_));exact HO360.out)) k_ hk,IsS56.fresh (by repeat (first|(with_reducible first|exact HI330.out|apply IsS56.alloc|apply IsS56.drewN|apply IsS56.drew|apply IsS56.set_1)|exact HI330.out)) k_ hk⟩) _ (Nat.le_refl _)) (Below.refl _ _) (Nat.le_refl _) (by simp) ?_;(case hd=>rfl);(case hg=>rfl);(case hr=>first|(go_simp;done)|(go_simp;rfl));(case hp=>exact (Reps.none _ _))
           intro v340 w35 ho36 hb hg_ hnew_
           clear hg_ hnew_
           (first|rw [← Ny339.out] at ho36|(simp only [Int.reduceToNat] at ho36;rw [← Ny339.out] at ho36))
           have n0_:=A_ (Kd.N_elder' (by (with_reducible repeat (first|apply na|apply nd_|apply ne_));exact HO333.out) (Kd.N_base ho36) hb)
           have n1_:=A_ (Kd.N_elder' (by (with_reducible repeat (first|apply na|apply nd_|apply ne_));exact HO336.out) (Kd.N_base ho36) hb)
           have n2_:=A_ (Kd.V_elder' (by (with_reducible repeat (first|apply Kd.V_alloc|apply Kd.V_drewN|apply Kd.V_drew));exact HO346.out) (Kd.N_base ho36) hb)
           have n3_:=A_ (Kd.V_elder' (by (with_reducible repeat (first|apply Kd.V_alloc|apply Kd.V_drewN|apply Kd.V_drew));exact HO354.out) (Kd.N_base ho36) hb)
           have n4_:=A_ (Kd.V_elder' (by (with_reducible repeat (first|apply Kd.V_alloc|apply Kd.V_drewN|apply Kd.V_drew));exact HO365.out) (Kd.N_base ho36) hb)
           have n5_:=A_ (Kd.V_elder' (by (with_reducible repeat (first|apply Kd.V_alloc|apply Kd.V_drewN|apply Kd.V_drew));exact HO373.out) (Kd.N_base ho36) hb)
           have n6_:=A_ (Kd.N_elder' (by (with_reducible repeat (first|apply na|apply nd_|apply ne_));exact HO360.out) (Kd.N_base ho36) hb)
           have n7_:=A_ (Kd.N_lower ho36 (below_size (by repeat (first|(with_reducible first|exact HB.out|apply ba|apply bb|apply bc|refine below_set ?_ (IsS56.ge HI330.out))|exact HB.out))))
           have n8_:=A_ (IsS56.below (by repeat (first|(with_reducible first|exact HI330.out|apply IsS56.alloc|apply IsS56.drewN|apply IsS56.drew|apply IsS56.set_1)|exact HI330.out)) hb)
           have n9_:=A_ (below_step (by repeat (first|(with_reducible first|exact HB.out|apply ba|apply bb|apply bc|refine below_set ?_ (IsS56.ge HI330.out))|exact HB.out)) hb)
           clear HO333
           clear HO336
           clear HO346
           clear HO354
           clear HO365
           clear HO373
           clear HO360
           clear HI330
           clear HB
           have HO333:=n0_
           have HO336:=n1_
           have HO346:=n2_
           have HO354:=n3_
           have HO365:=n4_
           have HO373:=n5_
           have HO360:=n6_
           have HO341:=n7_
           have HI330:=n8_
           have HB:=n9_
           clear n0_ n1_ n2_ n3_ n4_ n5_ n6_ n7_ n8_ n9_
           clear hb ho36
           refine hK.out _ _ trivial (fun hHeld=>?_)
           clear hK K
           refine norm_ (a':=?_) ?_ ?_
           rotate_left
           ·
            show Act.put _ (some 39) _ = _
            simp only [Act.put,sa,sb,sc,i64_w,i32_w]
            rfl
           refine one_ (i:=4) (N:=some 43) #[true,true,true,true,true,true,true,true,false,true,true,true,true,false,true,true,true,false,false,false] rfl rfl (one_of HT_.out (by kernel_rfl)) (by decide) (fun K hK=>?_)
           refine Kd.N_append_rows_step (Kd.slice 3 (Kd.int .i64)) (w0:=w) w.heap.size (by rfl) (.tmp 39) (.tmp 42) 23 22 (.slice none 0 0) 24 rfl Try.underlying23 info22 rfl (by decide) (by omega) v340 y339 y342 _ _ _ (fun k_=>nb k_ (.slice Ao31 t334.length co31)∧nb k_ v359∧k_≠g330) (fun k_=>((fun k_=>nb k_ (.slice Ao31 t334.length co31)∧nb k_ v359∧k_≠g330)) k_∧nb k_ v340) rfl rfl ?aO ?aR (fun _ hk=>hk) ?aF ?aB ?aS ?aL ?_
           (case aR=>exact (by skip;exact Kd.V_F (Kd.V_mono (ok':=(fun k_=>((fun k_=>nb k_ (.slice Ao31 t334.length co31)∧nb k_ v359∧k_≠g330)) k_∧nb k_ v340)) (HO346.out) (fun k_ hk=>⟨⟨hk.1.1.1,⟨hk.1.2,hk.1.1.2⟩⟩,hk.2⟩))))
           (case aB=>exact (by repeat (first|(with_reducible first|exact HB.out|apply ba|apply bb|apply bc|refine below_set ?_ (IsS56.ge HI330.out))|exact HB.out)))
           (case aF=>exact (fun k_ hk=>⟨rh (Kd.N_lt (by (with_reducible repeat (first|apply na|apply nd_|apply ne_));exact HO336.out)) k_ hk,rh (Kd.N_lt (by (with_reducible repeat (first|apply na|apply nd_|apply ne_));exact HO360.out)) k_ hk,IsS56.fresh (by repeat (first|(with_reducible first|exact HI330.out|apply IsS56.alloc|apply IsS56.drewN|apply IsS56.drew|apply IsS56.set_1)|exact HI330.out)) k_ hk⟩))
           (case aO=>exact (by (with_reducible repeat (first|apply na|apply nd_|apply ne_));exact Kd.N_mono HO341.out (fun _ hk=>⟨hk.2.1,⟨hk.2.2.1,hk.2.2.2⟩⟩)))
           (case aS=>exact (below_size (by repeat (first|(with_reducible first|exact HB.out|apply ba|apply bb|apply bc|refine below_set ?_ (IsS56.ge HI330.out))|exact HB.out))))
           (case aL=>have:=LMc9.out;omega)
           intro v348 w37 ho hb hg hat
           rw [← Ny347.out] at ho
           have n0_:=A_ (IsS56.grown (by repeat (first|(with_reducible first|exact HI330.out|apply IsS56.alloc|apply IsS56.drewN|apply IsS56.drew|apply IsS56.set_1)|exact HI330.out)) hg (IsS56.own_neN HI330.out HO341.out (by decide)))
           have n1_:=A_ (Kd.N_afterv (ok:=(fun k_=>nb k_ (.slice Ao31 t334.length co31)∧nb k_ v359∧k_≠g330)) (by (with_reducible repeat (first|apply na|apply nd_|apply ne_));exact Kd.N_mono HO333.out (fun _ hk=>⟨⟨hk.1.1.1,⟨hk.1.2,hk.1.1.2⟩⟩,hk.2⟩)) hg hat)
           have n2_:=A_ (Kd.N_afterv (ok:=(fun k_=>nb k_ (.slice Ao26 t331.length co26)∧nb k_ v359∧k_≠g330)) (by (with_reducible repeat (first|apply na|apply nd_|apply ne_));exact Kd.N_mono HO336.out (fun _ hk=>⟨⟨hk.1.1.1,⟨hk.1.2,hk.1.1.2⟩⟩,hk.2⟩)) hg hat)
           have n3_:=A_ (Kd.V_afterv (ok:=(fun k_=>nb k_ (.slice Ao31 t334.length co31)∧nb k_ v359∧k_≠g330)) (by (with_reducible repeat (first|apply Kd.V_alloc|apply Kd.V_drewN|apply Kd.V_drew));exact Kd.V_mono HO346.out (fun _ hk=>⟨⟨hk.1.1.1,⟨hk.1.2,hk.1.1.2⟩⟩,hk.2⟩)) hg hat)
           have n4_:=A_ (Kd.V_afterv (ok:=(fun k_=>nb k_ (.slice Ao31 t334.length co31)∧nb k_ v359∧k_≠g330)) (by (with_reducible repeat (first|apply Kd.V_alloc|apply Kd.V_drewN|apply Kd.V_drew));exact Kd.V_mono HO354.out (fun _ hk=>⟨⟨hk.1.1.1,⟨hk.1.2,hk.1.1.2⟩⟩,hk.2⟩)) hg hat)
           have n5_:=A_ (Kd.V_afterv (ok:=(fun k_=>nb k_ (.slice Ao26 t331.length co26)∧nb k_ v359∧k_≠g330)) (by (with_reducible repeat (first|apply Kd.V_alloc|apply Kd.V_drewN|apply Kd.V_drew));exact Kd.V_mono HO365.out (fun _ hk=>⟨⟨hk.1.1.1,⟨hk.1.2,hk.1.1.2⟩⟩,hk.2⟩)) hg hat)
           have n6_:=A_ (Kd.V_afterv (ok:=(fun k_=>nb k_ (.slice Ao26 t331.length co26)∧nb k_ v359∧k_≠g330)) (by (with_reducible repeat (first|apply Kd.V_alloc|apply Kd.V_drewN|apply Kd.V_drew));exact Kd.V_mono HO373.out (fun _ hk=>⟨⟨hk.1.1.1,⟨hk.1.2,hk.1.1.2⟩⟩,hk.2⟩)) hg hat)
           have n7_:=A_ (Kd.N_afterv (ok:=(fun k_=>nb k_ (.slice Ao26 t331.length co26)∧nb k_ (.slice Ao31 t334.length co31)∧k_≠g330)) (by (with_reducible repeat (first|apply na|apply nd_|apply ne_));exact HO360.out) hg hat)
           have n8_:=A_ (hb)
           have n9_:=A_ (ho)
           clear HI330
           clear HO333
           clear HO336
           clear HO346
           clear HO354
           clear HO365
           clear HO373
           clear HO360
           clear HB
           clear HO341
           have HI330:=n0_
           have HO333:=n1_
           have HO336:=n2_
           have HO346:=n3_
           have HO354:=n4_
           have HO365:=n5_
           have HO373:=n6_
           have HO360:=n7_
           have HB:=n8_
           have HO349:=n9_
           clear n0_ n1_ n2_ n3_ n4_ n5_ n6_ n7_ n8_ n9_
           clear ho hb hg hat
           refine hK.out _ _ trivial (fun hHeld=>?_)
           clear hK K
           refine norm_ (a':=?_) ?_ ?_
           rotate_left
           ·
            show Act.put _ (some 43) _ = _
            simp only [Act.put,sa,sb,sc,i64_w,i32_w]
            rfl
           refine one_ (i:=8) (N:=some 47) #[true,true,true,true,true,true,true,true,true,true,true,true,true,false,true,true,true,false,false,false] rfl rfl (one_of HT_.out (by kernel_rfl)) (by decide) (fun K hK=>?_)
           refine Kd.N_append_rows_step (Kd.slice 3 (Kd.int .i64)) (w0:=w) w.heap.size (by rfl) (.tmp 43) (.tmp 46) 23 22 (.slice none 0 0) 24 rfl Try.underlying23 info22 rfl (by decide) (by omega) v348 y347 y350 _ _ _ (fun k_=>nb k_ (.slice Ao31 t334.length co31)∧nb k_ v359∧k_≠g330) (fun k_=>((fun k_=>nb k_ (.slice Ao31 t334.length co31)∧nb k_ v359∧k_≠g330)) k_∧nb k_ v348) rfl rfl ?aO ?aR (fun _ hk=>hk) ?aF ?aB ?aS ?aL ?_
           (case aR=>exact (by skip;exact Kd.V_F (Kd.V_mono (ok':=(fun k_=>((fun k_=>nb k_ (.slice Ao31 t334.length co31)∧nb k_ v359∧k_≠g330)) k_∧nb k_ v348)) (HO354.out) (fun k_ hk=>⟨⟨hk.1.1,⟨hk.1.2.1,hk.1.2.2⟩⟩,hk.2⟩))))
           (case aB=>exact (by repeat (first|(with_reducible first|exact HB.out|apply ba|apply bb|apply bc|refine below_set ?_ (IsS56.ge HI330.out))|exact HB.out)))
           (case aF=>exact (fun k_ hk=>⟨rh (Kd.N_lt (by (with_reducible repeat (first|apply na|apply nd_|apply ne_));exact HO336.out)) k_ hk,rh (Kd.N_lt (by (with_reducible repeat (first|apply na|apply nd_|apply ne_));exact HO360.out)) k_ hk,IsS56.fresh (by repeat (first|(with_reducible first|exact HI330.out|apply IsS56.alloc|apply IsS56.drewN|apply IsS56.drew|apply IsS56.set_1)|exact HI330.out)) k_ hk⟩))
           (case aO=>exact (by (with_reducible repeat (first|apply na|apply nd_|apply ne_));exact HO349.out))
           (case aS=>exact (below_size (by repeat (first|(with_reducible first|exact HB.out|apply ba|apply bb|apply bc|refine below_set ?_ (IsS56.ge HI330.out))|exact HB.out))))
           (case aL=>have:=LMc12.out;omega)
           intro v356 w38 ho hb hg hat
           rw [← Ny355.out] at ho
           have n0_:=A_ (IsS56.grown (by repeat (first|(with_reducible first|exact HI330.out|apply IsS56.alloc|apply IsS56.drewN|apply IsS56.drew|apply IsS56.set_1)|exact HI330.out)) hg (IsS56.own_neN HI330.out HO349.out (by decide)))
           have n1_:=A_ (Kd.N_afterv (ok:=(fun k_=>nb k_ (.slice Ao31 t334.length co31)∧nb k_ v359∧k_≠g330)) (by (with_reducible repeat (first|apply na|apply nd_|apply ne_));exact HO333.out) hg hat)
           have n2_:=A_ (Kd.N_afterv (ok:=(fun k_=>nb k_ (.slice Ao26 t331.length co26)∧nb k_ v359∧k_≠g330)) (by (with_reducible repeat (first|apply na|apply nd_|apply ne_));exact HO336.out) hg hat)
           have n3_:=A_ (Kd.V_afterv (ok:=(fun k_=>nb k_ (.slice Ao31 t334.length co31)∧nb k_ v359∧k_≠g330)) (by (with_reducible repeat (first|apply Kd.V_alloc|apply Kd.V_drewN|apply Kd.V_drew));exact HO346.out) hg hat)
           have n4_:=A_ (Kd.V_afterv (ok:=(fun k_=>nb k_ (.slice Ao31 t334.length co31)∧nb k_ v359∧k_≠g330)) (by (with_reducible repeat (first|apply Kd.V_alloc|apply Kd.V_drewN|apply Kd.V_drew));exact HO354.out) hg hat)
           have n5_:=A_ (Kd.V_afterv (ok:=(fun k_=>nb k_ (.slice Ao26 t331.length co26)∧nb k_ v359∧k_≠g330)) (by (with_reducible repeat (first|apply Kd.V_alloc|apply Kd.V_drewN|apply Kd.V_drew));exact HO365.out) hg hat)
           have n6_:=A_ (Kd.V_afterv (ok:=(fun k_=>nb k_ (.slice Ao26 t331.length co26)∧nb k_ v359∧k_≠g330)) (by (with_reducible repeat (first|apply Kd.V_alloc|apply Kd.V_drewN|apply Kd.V_drew));exact HO373.out) hg hat)
           have n7_:=A_ (Kd.N_afterv (ok:=(fun k_=>nb k_ (.slice Ao26 t331.length co26)∧nb k_ (.slice Ao31 t334.length co31)∧k_≠g330)) (by (with_reducible repeat (first|apply na|apply nd_|apply ne_));exact HO360.out) hg hat)
           have n8_:=A_ (hb)
           have n9_:=A_ (ho)
           clear HI330
           clear HO333
           clear HO336
           clear HO346
           clear HO354
           clear HO365
           clear HO373
           clear HO360
           clear HB
           clear HO349
           have HI330:=n0_
           have HO333:=n1_
           have HO336:=n2_
           have HO346:=n3_
           have HO354:=n4_
           have HO365:=n5_
           have HO373:=n6_
           have HO360:=n7_
           have HB:=n8_
           have HO357:=n9_
           clear n0_ n1_ n2_ n3_ n4_ n5_ n6_ n7_ n8_ n9_
           clear ho hb hg hat
           refine hK.out _ _ trivial (fun hHeld=>?_)
           clear hK K
           refine norm_ (a':=?_) ?_ ?_
           rotate_left
           ·
            show Act.put _ (some 47) _ = _
            simp only [Act.put,sa,sb,sc,i64_w,i32_w]
            rfl
           exact norm_ (by simp only [putAll,Act.put,List.setIfInBounds_toArray,List.set_cons_zero,List.set_cons_succ]) (hCont (v340,v348,v356,v359) _ ⟨(by (with_reducible repeat (first|apply na|apply nd_|apply ne_));exact Kd.N_mono HO333.out (fun _ hk=>⟨hk.1.1,⟨hk.2,⟨hk.1.2.1,hk.1.2.2⟩⟩⟩)),(by (with_reducible repeat (first|apply na|apply nd_|apply ne_));exact Kd.N_mono HO336.out (fun _ hk=>⟨hk.1.1,⟨hk.2,⟨hk.1.2.1,hk.1.2.2⟩⟩⟩)),(by (with_reducible repeat (first|apply Kd.V_alloc|apply Kd.V_drewN|apply Kd.V_drew));exact Kd.V_mono HO346.out (fun _ hk=>⟨hk.1.1,⟨hk.2,⟨hk.1.2.1,hk.1.2.2⟩⟩⟩)),(by (with_reducible repeat (first|apply Kd.V_alloc|apply Kd.V_drewN|apply Kd.V_drew));exact Kd.V_mono HO354.out (fun _ hk=>⟨hk.1.1,⟨hk.2,⟨hk.1.2.1,hk.1.2.2⟩⟩⟩)),(by (with_reducible repeat (first|apply na|apply nd_|apply ne_));exact HO357.out),(by (with_reducible repeat (first|apply na|apply nd_|apply ne_));exact Kd.N_mono HO360.out (fun _ hk=>⟨hk.1.1,⟨hk.1.2.1,⟨hk.2,hk.1.2.2⟩⟩⟩)),(by (with_reducible repeat (first|apply Kd.V_alloc|apply Kd.V_drewN|apply Kd.V_drew));exact Kd.V_mono HO365.out (fun _ hk=>⟨hk.1.1,⟨hk.2,⟨hk.1.2.1,hk.1.2.2⟩⟩⟩)),(by (with_reducible repeat (first|apply Kd.V_alloc|apply Kd.V_drewN|apply Kd.V_drew));exact Kd.V_mono HO373.out (fun _ hk=>⟨hk.1.1,⟨hk.2,⟨hk.1.2.1,hk.1.2.2⟩⟩⟩)),(by repeat (first|(with_reducible first|exact HI330.out|apply IsS56.alloc|apply IsS56.drewN|apply IsS56.drew|apply IsS56.set_1)|exact HI330.out)),(by repeat (first|(with_reducible first|exact HB.out|apply ba|apply bb|apply bc|refine below_set ?_ (IsS56.ge HI330.out))|exact HB.out))⟩)
         rintro ⟨v340,v348,v356,v359⟩ w39 ⟨h0_,h1_,h2_,h3_,h4_,h5_,h6_,h7_,h8_,h9_⟩
         have n0_ : Aside0 (Kd.N (Kd.slice 3 (Kd.int .i64)) 22 w39 w.heap.size (fun k_=>nb k_ (.slice Ao31 t334.length co31)∧nb k_ v356∧nb k_ v359∧k_≠g330) (.slice Ao26 t331.length co26) t331):=⟨h0_⟩
         have n1_ : Aside0 (Kd.N (Kd.slice 3 (Kd.int .i64)) 22 w39 w.heap.size (fun k_=>nb k_ (.slice Ao26 t331.length co26)∧nb k_ v356∧nb k_ v359∧k_≠g330) (.slice Ao31 t334.length co31) t334):=⟨h1_⟩
         have n2_ : Aside0 (Kd.V (Kd.slice 3 (Kd.int .i64)) 22 w39 w.heap.size (fun k_=>nb k_ (.slice Ao31 t334.length co31)∧nb k_ v356∧nb k_ v359∧k_≠g330) (.slice A28 y342.length c28) y342):=⟨h2_⟩
         have n3_ : Aside0 (Kd.V (Kd.slice 3 (Kd.int .i64)) 22 w39 w.heap.size (fun k_=>nb k_ (.slice Ao31 t334.length co31)∧nb k_ v356∧nb k_ v359∧k_≠g330) (.slice Ao26 y350.length co26) y350):=⟨h3_⟩
         have n4_ : Aside0 (Kd.N (Kd.slice 3 (Kd.int .i64)) 22 w39 w.heap.size (fun k_=>nb k_ (.slice Ao31 t334.length co31)∧nb k_ v359∧k_≠g330) v356 y355):=⟨h4_⟩
         have n5_ : Aside0 (Kd.N (Kd.slice 3 (Kd.int .i64)) 22 w39 w.heap.size (fun k_=>nb k_ (.slice Ao26 t331.length co26)∧nb k_ (.slice Ao31 t334.length co31)∧nb k_ v356∧k_≠g330) v359 y358):=⟨h5_⟩
         have n6_ : Aside0 (Kd.V (Kd.slice 3 (Kd.int .i64)) 22 w39 w.heap.size (fun k_=>nb k_ (.slice Ao26 t331.length co26)∧nb k_ v356∧nb k_ v359∧k_≠g330) (.slice A30 y361.length c30) y361):=⟨h6_⟩
         have n7_ : Aside0 (Kd.V (Kd.slice 3 (Kd.int .i64)) 22 w39 w.heap.size (fun k_=>nb k_ (.slice Ao26 t331.length co26)∧nb k_ v356∧nb k_ v359∧k_≠g330) (.slice Ao31 y369.length co31) y369):=⟨h7_⟩
         have n8_ : Aside0 (IsS56 w w39 g330 t328 t338):=⟨h8_⟩
         have n9_ : Aside0 (Below w.heap.size w w39):=⟨h9_⟩
         clear HO333
         clear HO336
         clear HI330
         clear HB
         clear h0_ h1_ h2_ h3_ h4_ h5_ h6_ h7_ h8_ h9_
         have HO333:=n0_
         have HO336:=n1_
         have HO346:=n2_
         have HO354:=n3_
         have HO357:=n4_
         have HO360:=n5_
         have HO365:=n6_
         have HO373:=n7_
         have HI330:=n8_
         have HB:=n9_
         clear n0_ n1_ n2_ n3_ n4_ n5_ n6_ n7_ n8_ n9_
         have hHeld:=trivial
         refine norm_ (a':=?_) ?_ ?_
         rotate_left
         ·
          simp only [putAll,Act.put,List.setIfInBounds_toArray,List.set_cons_zero,List.set_cons_succ]
          rfl
         refine one_ (i:=13) (N:=some 52) #[true,true,true,true,true,true,true,true,true,true,true,true,true,true,true,true,true,false,false,false] rfl rfl (one_of HT_.out (by kernel_rfl)) (by decide) (fun K hK=>?_)
         refine Kd.N_append_rows_step (Kd.slice 3 (Kd.int .i64)) (w0:=w) w.heap.size (by rfl) (.tmp 48) (.tmp 51) 23 22 (.slice none 0 0) 24 rfl Try.underlying23 info22 rfl (by decide) (by omega) v359 y358 y361 _ _ _ (fun k_=>nb k_ (.slice Ao26 t331.length co26)∧nb k_ v356∧k_≠g330) (fun k_=>((fun k_=>nb k_ (.slice Ao26 t331.length co26)∧nb k_ v356∧k_≠g330)) k_∧nb k_ v359) rfl rfl ?aO ?aR (fun _ hk=>hk) ?aF ?aB ?aS ?aL ?_
         (case aR=>exact (by skip;exact Kd.V_F (Kd.V_mono (ok':=(fun k_=>((fun k_=>nb k_ (.slice Ao26 t331.length co26)∧nb k_ v356∧k_≠g330)) k_∧nb k_ v359)) (HO365.out) (fun k_ hk=>⟨⟨hk.1,⟨hk.2.1,hk.2.2.2⟩⟩,hk.2.2.1⟩))))
         (case aB=>exact (by repeat (first|(with_reducible first|exact HB.out|apply ba|apply bb|apply bc|refine below_set ?_ (IsS56.ge HI330.out))|exact HB.out)))
         (case aF=>exact (fun k_ hk=>⟨rh (Kd.N_lt (by (with_reducible repeat (first|apply na|apply nd_|apply ne_));exact HO333.out)) k_ hk,rh (Kd.N_lt (by (with_reducible repeat (first|apply na|apply nd_|apply ne_));exact HO357.out)) k_ hk,IsS56.fresh (by repeat (first|(with_reducible first|exact HI330.out|apply IsS56.alloc|apply IsS56.drewN|apply IsS56.drew|apply IsS56.set_1)|exact HI330.out)) k_ hk⟩))
         (case aO=>exact (by (with_reducible repeat (first|apply na|apply nd_|apply ne_));exact Kd.N_mono HO360.out (fun _ hk=>⟨hk.1,⟨hk.2.2.1,hk.2.2.2⟩⟩)))
         (case aS=>exact (below_size (by repeat (first|(with_reducible first|exact HB.out|apply ba|apply bb|apply bc|refine below_set ?_ (IsS56.ge HI330.out))|exact HB.out))))
         (case aL=>have:=LMc15.out;omega)
         intro v367 w40 ho hb hg hat
         rw [← Ny366.out] at ho
         have n0_:=A_ (IsS56.grown (by repeat (first|(with_reducible first|exact HI330.out|apply IsS56.alloc|apply IsS56.drewN|apply IsS56.drew|apply IsS56.set_1)|exact HI330.out)) hg (IsS56.own_neN HI330.out HO360.out (by decide)))
         have n1_:=A_ (Kd.N_afterv (ok:=(fun k_=>nb k_ (.slice Ao31 t334.length co31)∧nb k_ v356∧k_≠g330)) (by (with_reducible repeat (first|apply na|apply nd_|apply ne_));exact Kd.N_mono HO333.out (fun _ hk=>⟨⟨hk.1,⟨hk.2.1,hk.2.2.2⟩⟩,hk.2.2.1⟩)) hg hat)
         have n2_:=A_ (Kd.N_afterv (ok:=(fun k_=>nb k_ (.slice Ao26 t331.length co26)∧nb k_ v356∧k_≠g330)) (by (with_reducible repeat (first|apply na|apply nd_|apply ne_));exact Kd.N_mono HO336.out (fun _ hk=>⟨⟨hk.1,⟨hk.2.1,hk.2.2.2⟩⟩,hk.2.2.1⟩)) hg hat)
         have n3_:=A_ (Kd.V_afterv (ok:=(fun k_=>nb k_ (.slice Ao31 t334.length co31)∧nb k_ v356∧k_≠g330)) (by (with_reducible repeat (first|apply Kd.V_alloc|apply Kd.V_drewN|apply Kd.V_drew));exact Kd.V_mono HO346.out (fun _ hk=>⟨⟨hk.1,⟨hk.2.1,hk.2.2.2⟩⟩,hk.2.2.1⟩)) hg hat)
         have n4_:=A_ (Kd.V_afterv (ok:=(fun k_=>nb k_ (.slice Ao31 t334.length co31)∧nb k_ v356∧k_≠g330)) (by (with_reducible repeat (first|apply Kd.V_alloc|apply Kd.V_drewN|apply Kd.V_drew));exact Kd.V_mono HO354.out (fun _ hk=>⟨⟨hk.1,⟨hk.2.1,hk.2.2.2⟩⟩,hk.2.2.1⟩)) hg hat)
         have n5_:=A_ (Kd.V_afterv (ok:=(fun k_=>nb k_ (.slice Ao26 t331.length co26)∧nb k_ v356∧k_≠g330)) (by (with_reducible repeat (first|apply Kd.V_alloc|apply Kd.V_drewN|apply Kd.V_drew));exact Kd.V_mono HO365.out (fun _ hk=>⟨⟨hk.1,⟨hk.2.1,hk.2.2.2⟩⟩,hk.2.2.1⟩)) hg hat)
         have n6_:=A_ (Kd.V_afterv (ok:=(fun k_=>nb k_ (.slice Ao26 t331.length co26)∧nb k_ v356∧k_≠g330)) (by (with_reducible repeat (first|apply Kd.V_alloc|apply Kd.V_drewN|apply Kd.V_drew));exact Kd.V_mono HO373.out (fun _ hk=>⟨⟨hk.1,⟨hk.2.1,hk.2.2.2⟩⟩,hk.2.2.1⟩)) hg hat)
         have n7_:=A_ (Kd.N_afterv (ok:=(fun k_=>nb k_ (.slice Ao31 t334.length co31)∧k_≠g330)) (by (with_reducible repeat (first|apply na|apply nd_|apply ne_));exact Kd.N_mono HO357.out (fun _ hk=>⟨⟨hk.1,hk.2.2⟩,hk.2.1⟩)) hg hat)
         have n8_:=A_ (hb)
         have n9_:=A_ (ho)
         clear HI330
         clear HO333
         clear HO336
         clear HO346
         clear HO354
         clear HO365
         clear HO373
         clear HO357
         clear HB
         clear HO360
         have HI330:=n0_
         have HO333:=n1_
         have HO336:=n2_
         have HO346:=n3_
         have HO354:=n4_
         have HO365:=n5_
         have HO373:=n6_
         have HO357:=n7_
         have HB:=n8_
         have HO368:=n9_
         clear n0_ n1_ n2_ n3_ n4_ n5_ n6_ n7_ n8_ n9_
         clear ho hb hg hat
         refine hK.out _ _ trivial (fun hHeld=>?_)
         clear hK K
         refine norm_ (a':=?_) ?_ ?_
         rotate_left
         ·
          show Act.put _ (some 52) _ = _
          simp only [Act.put,sa,sb,sc,i64_w,i32_w]
          rfl
         refine one_ (i:=17) (N:=some 56) #[true,true,true,true,true,true,true,true,true,true,true,true,true,true,true,true,true,true,false,false] rfl rfl (one_of HT_.out (by kernel_rfl)) (by decide) (fun K hK=>?_)
         refine Kd.N_append_rows_step (Kd.slice 3 (Kd.int .i64)) (w0:=w) w.heap.size (by rfl) (.tmp 52) (.tmp 55) 23 22 (.slice none 0 0) 24 rfl Try.underlying23 info22 rfl (by decide) (by omega) v367 y366 y369 _ _ _ (fun k_=>nb k_ (.slice Ao26 t331.length co26)∧nb k_ v356∧k_≠g330) (fun k_=>((fun k_=>nb k_ (.slice Ao26 t331.length co26)∧nb k_ v356∧k_≠g330)) k_∧nb k_ v367) rfl rfl ?aO ?aR (fun _ hk=>hk) ?aF ?aB ?aS ?aL ?_
         (case aR=>exact (by skip;exact Kd.V_F (Kd.V_mono (ok':=(fun k_=>((fun k_=>nb k_ (.slice Ao26 t331.length co26)∧nb k_ v356∧k_≠g330)) k_∧nb k_ v367)) (HO373.out) (fun k_ hk=>⟨⟨hk.1.1,⟨hk.1.2.1,hk.1.2.2⟩⟩,hk.2⟩))))
         (case aB=>exact (by repeat (first|(with_reducible first|exact HB.out|apply ba|apply bb|apply bc|refine below_set ?_ (IsS56.ge HI330.out))|exact HB.out)))
         (case aF=>exact (fun k_ hk=>⟨rh (Kd.N_lt (by (with_reducible repeat (first|apply na|apply nd_|apply ne_));exact HO333.out)) k_ hk,rh (Kd.N_lt (by (with_reducible repeat (first|apply na|apply nd_|apply ne_));exact HO357.out)) k_ hk,IsS56.fresh (by repeat (first|(with_reducible first|exact HI330.out|apply IsS56.alloc|apply IsS56.drewN|apply IsS56.drew|apply IsS56.set_1)|exact HI330.out)) k_ hk⟩))
         (case aO=>exact (by (with_reducible repeat (first|apply na|apply nd_|apply ne_));exact HO368.out))
         (case aS=>exact (below_size (by repeat (first|(with_reducible first|exact HB.out|apply ba|apply bb|apply bc|refine below_set ?_ (IsS56.ge HI330.out))|exact HB.out))))
         (case aL=>have:=LMc18.out;omega)
         intro v375 w41 ho hb hg hat
         rw [← Ny374.out] at ho
         have n0_:=A_ (IsS56.grown (by repeat (first|(with_reducible first|exact HI330.out|apply IsS56.alloc|apply IsS56.drewN|apply IsS56.drew|apply IsS56.set_1)|exact HI330.out)) hg (IsS56.own_neN HI330.out HO368.out (by decide)))
         have n1_:=A_ (Kd.N_afterv (ok:=(fun k_=>nb k_ (.slice Ao31 t334.length co31)∧nb k_ v356∧k_≠g330)) (by (with_reducible repeat (first|apply na|apply nd_|apply ne_));exact HO333.out) hg hat)
         have n2_:=A_ (Kd.N_afterv (ok:=(fun k_=>nb k_ (.slice Ao26 t331.length co26)∧nb k_ v356∧k_≠g330)) (by (with_reducible repeat (first|apply na|apply nd_|apply ne_));exact HO336.out) hg hat)
         have n3_:=A_ (Kd.V_afterv (ok:=(fun k_=>nb k_ (.slice Ao31 t334.length co31)∧nb k_ v356∧k_≠g330)) (by (with_reducible repeat (first|apply Kd.V_alloc|apply Kd.V_drewN|apply Kd.V_drew));exact HO346.out) hg hat)
         have n4_:=A_ (Kd.V_afterv (ok:=(fun k_=>nb k_ (.slice Ao31 t334.length co31)∧nb k_ v356∧k_≠g330)) (by (with_reducible repeat (first|apply Kd.V_alloc|apply Kd.V_drewN|apply Kd.V_drew));exact HO354.out) hg hat)
         have n5_:=A_ (Kd.V_afterv (ok:=(fun k_=>nb k_ (.slice Ao26 t331.length co26)∧nb k_ v356∧k_≠g330)) (by (with_reducible repeat (first|apply Kd.V_alloc|apply Kd.V_drewN|apply Kd.V_drew));exact HO365.out) hg hat)
         have n6_:=A_ (Kd.V_afterv (ok:=(fun k_=>nb k_ (.slice Ao26 t331.length co26)∧nb k_ v356∧k_≠g330)) (by (with_reducible repeat (first|apply Kd.V_alloc|apply Kd.V_drewN|apply Kd.V_drew));exact HO373.out) hg hat)
         have n7_:=A_ (Kd.N_afterv (ok:=(fun k_=>nb k_ (.slice Ao31 t334.length co31)∧k_≠g330)) (by (with_reducible repeat (first|apply na|apply nd_|apply ne_));exact HO357.out) hg hat)
         have n8_:=A_ (hb)
         have n9_:=A_ (ho)
         clear HI330
         clear HO333
         clear HO336
         clear HO346
         clear HO354
         clear HO365
         clear HO373
         clear HO357
         clear HB
         clear HO368
         have HI330:=n0_
         have HO333:=n1_
         have HO336:=n2_
         have HO346:=n3_
         have HO354:=n4_
         have HO365:=n5_
         have HO373:=n6_
         have HO357:=n7_
         have HB:=n8_
         have HO376:=n9_
         clear n0_ n1_ n2_ n3_ n4_ n5_ n6_ n7_ n8_ n9_
         clear ho hb hg hat
         refine hK.out _ _ trivial (fun hHeld=>?_)
         clear hK K
         refine norm_ (a':=?_) ?_ ?_
         rotate_left
         ·
          show Act.put _ (some 56) _ = _
          simp only [Act.put,sa,sb,sc,i64_w,i32_w]
          rfl
         refine pure_ (i:=18) (N:=some 9) (v:=?_) (a':=?_) #[true,true,true,true,true,true,true,true,true,true,true,true,true,true,true,true,true,true,true,false] rfl rfl (any_of HT_.out (by kernel_rfl)) (fun _ _ _ h=>h) (Or.inl ⟨by rfl,?_⟩) ?_ ?_
         rotate_left
         ·
          intro w'
          go_simp
          with_reducible rfl
         rotate_left
         ·
          simp only [Act.put,sa,sb,sc,i64_w,i32_w]
          rfl
         refine pure_ (i:=19) (N:=some 10) (v:=?_) (a':=?_) #[true,true,true,true,true,true,true,true,true,true,true,true,true,true,true,true,true,true,true,true] rfl rfl (any_of HT_.out (by kernel_rfl)) (fun _ _ _ h=>h) (Or.inl ⟨by rfl,?_⟩) ?_ ?_
         rotate_left
         ·
          intro w'
          go_simp
          with_reducible rfl
         rotate_left
         ·
          simp only [Act.put,sa,sb,sc,i64_w,i32_w]
          rfl
         refine done_ (done_of HT_.out (by kernel_rfl)) ?_
         go_upto_region 8 with (first|((with_reducible refine gate_callee (f:=11) rfl ?_);refine goesL_ (some 61) rfl rfl Try.func11 (by kernel_rfl) rfl #[.slice Ao26 t331.length co26,.slice Ao31 t334.length co31,.int .i64 t337] rfl (by (try simp only [List.map_toArray,List.map_cons,List.map_nil]);first|done|rfl|(simp only [List.length_drop,List.length_take];rfl)|((try rw [KY28.out]);(try rw [KY29.out]);(try rw [KY30.out]);(try rw [KY32.out]);rfl)) ?_;(with_reducible refine (channels_Apart.calls k _ _ t331 _ _ t334 t337 t377 t378 _ ?side1 ?side2 ?side3 ?side4 A19.out).mono ?_);(case side1=>repeat (first|exact (Kd.N_reads' HO333.out).2.2|(with_reducible refine ca ?_ _)|(with_reducible refine cb ?_ _)|(with_reducible refine cc ?_)));(case side2=>exact (Kd.N_reads' HO333.out).2.1);(case side3=>repeat (first|exact (Kd.N_reads' HO336.out).2.2|(with_reducible refine ca ?_ _)|(with_reducible refine cb ?_ _)|(with_reducible refine cc ?_)));(case side4=>exact (Kd.N_reads' HO336.out).2.1);rintro e w42 ⟨rfl,hb⟩;refine ⟨_,rfl,?_⟩;have n0_:=A_ (Kd.N_below (by (with_reducible repeat (first|apply na|apply nd_|apply ne_));exact HO333.out) hb);have n1_:=A_ (Kd.N_below (by (with_reducible repeat (first|apply na|apply nd_|apply ne_));exact HO336.out) hb);have n2_:=A_ (Kd.V_below (by (with_reducible repeat (first|apply Kd.V_alloc|apply Kd.V_drewN|apply Kd.V_drew));exact HO346.out) hb);have n3_:=A_ (Kd.V_below (by (with_reducible repeat (first|apply Kd.V_alloc|apply Kd.V_drewN|apply Kd.V_drew));exact HO354.out) hb);have n4_:=A_ (Kd.V_below (by (with_reducible repeat (first|apply Kd.V_alloc|apply Kd.V_drewN|apply Kd.V_drew));exact HO365.out) hb);have n5_:=A_ (Kd.V_below (by (with_reducible repeat (first|apply Kd.V_alloc|apply Kd.V_drewN|apply Kd.V_drew));exact HO373.out) hb);have n6_:=A_ (Kd.N_below (by (with_reducible repeat (first|apply na|apply nd_|apply ne_));exact HO357.out) hb);have n7_:=A_ (Kd.N_below (by (with_reducible repeat (first|apply na|apply nd_|apply ne_));exact HO376.out) hb);have n8_:=A_ (IsS56.below (by repeat (first|(with_reducible first|exact HI330.out|apply IsS56.alloc|apply IsS56.drewN|apply IsS56.drew|apply IsS56.set_1)|exact HI330.out)) hb);have n9_:=A_ (below_step (by repeat (first|(with_reducible first|exact HB.out|apply ba|apply bb|apply bc|refine below_set ?_ (IsS56.ge HI330.out))|exact HB.out)) hb);clear HO333;clear HO336;clear HO346;clear HO354;clear HO365;clear HO373;clear HO357;clear HO376;clear HI330;clear HB;have HO333:=n0_;have HO336:=n1_;have HO346:=n2_;have HO354:=n3_;have HO365:=n4_;have HO373:=n5_;have HO357:=n6_;have HO376:=n7_;have HI330:=n8_;have HB:=n9_;clear n0_ n1_ n2_ n3_ n4_ n5_ n6_ n7_ n8_ n9_;(try clear hb);(try clear hb2);(try clear hk);(try clear hi);obtain ⟨Ao43,co43,eo43⟩:=Kd.N_slice HO357.out;subst eo43;obtain ⟨Ao44,co44,eo44⟩:=Kd.N_slice HO376.out;subst eo44)|((with_reducible refine gate_callee (f:=11) rfl ?_);refine goesL_ (some 68) rfl rfl Try.func11 (by kernel_rfl) rfl #[.slice Ao43 y355.length co43,.slice Ao44 y374.length co44,.int .i64 t337] rfl (by (try simp only [List.map_toArray,List.map_cons,List.map_nil]);first|done|rfl|(simp only [List.length_drop,List.length_take];rfl)|((try rw [KY28.out]);(try rw [KY29.out]);(try rw [KY30.out]);(try rw [KY32.out]);rfl)) ?_;(with_reducible refine (channels_Apart.calls k _ _ y355 _ _ y374 t337 t379 t380 _ ?side1 ?side2 ?side3 ?side4 A20.out).mono ?_);(case side1=>repeat (first|exact (Kd.N_reads' HO357.out).2.2|(with_reducible refine ca ?_ _)|(with_reducible refine cb ?_ _)|(with_reducible refine cc ?_)));(case side2=>exact (Kd.N_reads' HO357.out).2.1);(case side3=>repeat (first|exact (Kd.N_reads' HO376.out).2.2|(with_reducible refine ca ?_ _)|(with_reducible refine cb ?_ _)|(with_reducible refine cc ?_)));(case side4=>exact (Kd.N_reads' HO376.out).2.1);rintro e w45 ⟨rfl,hb⟩;refine ⟨_,rfl,?_⟩;have n0_:=A_ (Kd.N_below (by (with_reducible repeat (first|apply na|apply nd_|apply ne_));exact HO333.out) hb);have n1_:=A_ (Kd.N_below (by (with_reducible repeat (first|apply na|apply nd_|apply ne_));exact HO336.out) hb);have n2_:=A_ (Kd.V_below (by (with_reducible repeat (first|apply Kd.V_alloc|apply Kd.V_drewN|apply Kd.V_drew));exact HO346.out) hb);have n3_:=A_ (Kd.V_below (by (with_reducible repeat (first|apply Kd.V_alloc|apply Kd.V_drewN|apply Kd.V_drew));exact HO354.out) hb);have n4_:=A_ (Kd.V_below (by (with_reducible repeat (first|apply Kd.V_alloc|apply Kd.V_drewN|apply Kd.V_drew));exact HO365.out) hb);have n5_:=A_ (Kd.V_below (by (with_reducible repeat (first|apply Kd.V_alloc|apply Kd.V_drewN|apply Kd.V_drew));exact HO373.out) hb);have n6_:=A_ (Kd.N_below (by (with_reducible repeat (first|apply na|apply nd_|apply ne_));exact HO357.out) hb);have n7_:=A_ (Kd.N_below (by (with_reducible repeat (first|apply na|apply nd_|apply ne_));exact HO376.out) hb);have n8_:=A_ (IsS56.below (by repeat (first|(with_reducible first|exact HI330.out|apply IsS56.alloc|apply IsS56.drewN|apply IsS56.drew|apply IsS56.set_1)|exact HI330.out)) hb);have n9_:=A_ (below_step (by repeat (first|(with_reducible first|exact HB.out|apply ba|apply bb|apply bc|refine below_set ?_ (IsS56.ge HI330.out))|exact HB.out)) hb);clear HO333;clear HO336;clear HO346;clear HO354;clear HO365;clear HO373;clear HO357;clear HO376;clear HI330;clear HB;have HO333:=n0_;have HO336:=n1_;have HO346:=n2_;have HO354:=n3_;have HO365:=n4_;have HO373:=n5_;have HO357:=n6_;have HO376:=n7_;have HI330:=n8_;have HB:=n9_;clear n0_ n1_ n2_ n3_ n4_ n5_ n6_ n7_ n8_ n9_;(try clear hb);(try clear hb2);(try clear hk);(try clear hi))|((with_reducible refine gate_callee (f:=12) rfl ?_);refine goesL_ (some 75) rfl rfl Try.func12 (by kernel_rfl) rfl #[.slice Ao26 t331.length co26,.slice Ao31 t334.length co31,.int .i64 t337] rfl (by (try simp only [List.map_toArray,List.map_cons,List.map_nil]);first|done|rfl|(simp only [List.length_drop,List.length_take];rfl)|((try rw [KY28.out]);(try rw [KY29.out]);(try rw [KY30.out]);(try rw [KY32.out]);rfl)) ?_;(with_reducible refine (channels_Together.calls k _ _ t331 _ _ t334 t337 t381 t382 _ ?side1 ?side2 ?side3 ?side4 A21.out).mono ?_);(case side1=>repeat (first|exact (Kd.N_reads' HO333.out).2.2|(with_reducible refine ca ?_ _)|(with_reducible refine cb ?_ _)|(with_reducible refine cc ?_)));(case side2=>exact (Kd.N_reads' HO333.out).2.1);(case side3=>repeat (first|exact (Kd.N_reads' HO336.out).2.2|(with_reducible refine ca ?_ _)|(with_reducible refine cb ?_ _)|(with_reducible refine cc ?_)));(case side4=>exact (Kd.N_reads' HO336.out).2.1);rintro e w46 ⟨rfl,hb⟩;refine ⟨_,rfl,?_⟩;have n0_:=A_ (Kd.N_below (by (with_reducible repeat (first|apply na|apply nd_|apply ne_));exact HO333.out) hb);have n1_:=A_ (Kd.N_below (by (with_reducible repeat (first|apply na|apply nd_|apply ne_));exact HO336.out) hb);have n2_:=A_ (Kd.V_below (by (with_reducible repeat (first|apply Kd.V_alloc|apply Kd.V_drewN|apply Kd.V_drew));exact HO346.out) hb);have n3_:=A_ (Kd.V_below (by (with_reducible repeat (first|apply Kd.V_alloc|apply Kd.V_drewN|apply Kd.V_drew));exact HO354.out) hb);have n4_:=A_ (Kd.V_below (by (with_reducible repeat (first|apply Kd.V_alloc|apply Kd.V_drewN|apply Kd.V_drew));exact HO365.out) hb);have n5_:=A_ (Kd.V_below (by (with_reducible repeat (first|apply Kd.V_alloc|apply Kd.V_drewN|apply Kd.V_drew));exact HO373.out) hb);have n6_:=A_ (Kd.N_below (by (with_reducible repeat (first|apply na|apply nd_|apply ne_));exact HO357.out) hb);have n7_:=A_ (Kd.N_below (by (with_reducible repeat (first|apply na|apply nd_|apply ne_));exact HO376.out) hb);have n8_:=A_ (IsS56.below (by repeat (first|(with_reducible first|exact HI330.out|apply IsS56.alloc|apply IsS56.drewN|apply IsS56.drew|apply IsS56.set_1)|exact HI330.out)) hb);have n9_:=A_ (below_step (by repeat (first|(with_reducible first|exact HB.out|apply ba|apply bb|apply bc|refine below_set ?_ (IsS56.ge HI330.out))|exact HB.out)) hb);clear HO333;clear HO336;clear HO346;clear HO354;clear HO365;clear HO373;clear HO357;clear HO376;clear HI330;clear HB;have HO333:=n0_;have HO336:=n1_;have HO346:=n2_;have HO354:=n3_;have HO365:=n4_;have HO373:=n5_;have HO357:=n6_;have HO376:=n7_;have HI330:=n8_;have HB:=n9_;clear n0_ n1_ n2_ n3_ n4_ n5_ n6_ n7_ n8_ n9_;(try clear hb);(try clear hb2);(try clear hk);(try clear hi))|((with_reducible refine gate_callee (f:=12) rfl ?_);refine goesL_ (some 82) rfl rfl Try.func12 (by kernel_rfl) rfl #[.slice Ao43 y355.length co43,.slice Ao44 y374.length co44,.int .i64 t337] rfl (by (try simp only [List.map_toArray,List.map_cons,List.map_nil]);first|done|rfl|(simp only [List.length_drop,List.length_take];rfl)|((try rw [KY28.out]);(try rw [KY29.out]);(try rw [KY30.out]);(try rw [KY32.out]);rfl)) ?_;(with_reducible refine (channels_Together.calls k _ _ y355 _ _ y374 t337 t383 t384 _ ?side1 ?side2 ?side3 ?side4 A22.out).mono ?_);(case side1=>repeat (first|exact (Kd.N_reads' HO357.out).2.2|(with_reducible refine ca ?_ _)|(with_reducible refine cb ?_ _)|(with_reducible refine cc ?_)));(case side2=>exact (Kd.N_reads' HO357.out).2.1);(case side3=>repeat (first|exact (Kd.N_reads' HO376.out).2.2|(with_reducible refine ca ?_ _)|(with_reducible refine cb ?_ _)|(with_reducible refine cc ?_)));(case side4=>exact (Kd.N_reads' HO376.out).2.1);rintro e w47 ⟨rfl,hb⟩;refine ⟨_,rfl,?_⟩;have n0_:=A_ (Kd.N_below (by (with_reducible repeat (first|apply na|apply nd_|apply ne_));exact HO333.out) hb);have n1_:=A_ (Kd.N_below (by (with_reducible repeat (first|apply na|apply nd_|apply ne_));exact HO336.out) hb);have n2_:=A_ (Kd.V_below (by (with_reducible repeat (first|apply Kd.V_alloc|apply Kd.V_drewN|apply Kd.V_drew));exact HO346.out) hb);have n3_:=A_ (Kd.V_below (by (with_reducible repeat (first|apply Kd.V_alloc|apply Kd.V_drewN|apply Kd.V_drew));exact HO354.out) hb);have n4_:=A_ (Kd.V_below (by (with_reducible repeat (first|apply Kd.V_alloc|apply Kd.V_drewN|apply Kd.V_drew));exact HO365.out) hb);have n5_:=A_ (Kd.V_below (by (with_reducible repeat (first|apply Kd.V_alloc|apply Kd.V_drewN|apply Kd.V_drew));exact HO373.out) hb);have n6_:=A_ (Kd.N_below (by (with_reducible repeat (first|apply na|apply nd_|apply ne_));exact HO357.out) hb);have n7_:=A_ (Kd.N_below (by (with_reducible repeat (first|apply na|apply nd_|apply ne_));exact HO376.out) hb);have n8_:=A_ (IsS56.below (by repeat (first|(with_reducible first|exact HI330.out|apply IsS56.alloc|apply IsS56.drewN|apply IsS56.drew|apply IsS56.set_1)|exact HI330.out)) hb);have n9_:=A_ (below_step (by repeat (first|(with_reducible first|exact HB.out|apply ba|apply bb|apply bc|refine below_set ?_ (IsS56.ge HI330.out))|exact HB.out)) hb);clear HO333;clear HO336;clear HO346;clear HO354;clear HO365;clear HO373;clear HO357;clear HO376;clear HI330;clear HB;have HO333:=n0_;have HO336:=n1_;have HO346:=n2_;have HO354:=n3_;have HO365:=n4_;have HO373:=n5_;have HO357:=n6_;have HO376:=n7_;have HI330:=n8_;have HB:=n9_;clear n0_ n1_ n2_ n3_ n4_ n5_ n6_ n7_ n8_ n9_;(try clear hb);(try clear hb2);(try clear hk);(try clear hi)))
         (try simp only [Act.put,List.setIfInBounds_toArray,List.set_cons_zero,List.set_cons_succ])
         go_cut [108] (fun v108 wc=>∃ (kq : Nat) (x108_22 : Bool),v108 = .bool x108_22∧Aside0 (shapesearchlaw16_ChannelsOrder.j0 kq t331 t334 y355 y374 x108_22 = some r)∧Aside0 (kq ≤ k)∧Aside0 (Kd.N (Kd.slice 3 (Kd.int .i64)) 22 wc w.heap.size (fun k_=>some k_≠((.slice Ao31 t334.length co31) : Value).ownBlock∧some k_≠((.slice Ao43 y355.length co43) : Value).ownBlock∧some k_≠((.slice Ao44 y374.length co44) : Value).ownBlock) (.slice Ao26 t331.length co26) t331)∧Aside0 (Kd.N (Kd.slice 3 (Kd.int .i64)) 22 wc w.heap.size (fun k_=>some k_≠((.slice Ao26 t331.length co26) : Value).ownBlock∧some k_≠((.slice Ao43 y355.length co43) : Value).ownBlock∧some k_≠((.slice Ao44 y374.length co44) : Value).ownBlock) (.slice Ao31 t334.length co31) t334)∧Aside0 (Kd.N (Kd.slice 3 (Kd.int .i64)) 22 wc w.heap.size (fun k_=>some k_≠((.slice Ao31 t334.length co31) : Value).ownBlock∧some k_≠((.slice Ao44 y374.length co44) : Value).ownBlock) (.slice Ao43 y355.length co43) y355)∧Aside0 (Kd.N (Kd.slice 3 (Kd.int .i64)) 22 wc w.heap.size (fun k_=>some k_≠((.slice Ao26 t331.length co26) : Value).ownBlock∧some k_≠((.slice Ao43 y355.length co43) : Value).ownBlock) (.slice Ao44 y374.length co44) y374)∧Aside0 (Below w.heap.size w wc))
         case first =>
          have H:=HC23.out
          clear HC23
          by_cases c48 : t378 = 0
          ·
           rw [if_pos c48] at H
           have c48b0 : (t378 == 0) = true:=beq_iff_eq.mpr c48
           have c48b1 : (t378 != 0) = false:=bne_eq_false_iff_eq.mpr c48
           clear c48
           (first|rw [c48b0]|(simp only [i64_w,i32_w];rw [c48b0])|skip)
           by_cases c49 : t380 = 0
           ·
            rw [if_pos c49] at H
            have c49b0 : (t380 == 0) = true:=beq_iff_eq.mpr c49
            have c49b1 : (t380 != 0) = false:=bne_eq_false_iff_eq.mpr c49
            clear c49
            by_cases c50 : t382 = 0
            ·
             rw [if_pos c50] at H
             have c50b0 : (t382 == 0) = true:=beq_iff_eq.mpr c50
             have c50b1 : (t382 != 0) = false:=bne_eq_false_iff_eq.mpr c50
             clear c50
             by_cases c51 : t384 = 0
             ·
              rw [if_pos c51] at H
              have c51b0 : (t384 == 0) = true:=beq_iff_eq.mpr c51
              have c51b1 : (t384 != 0) = false:=bne_eq_false_iff_eq.mpr c51
              clear c51
              by_cases c52 : t377 = t379
              ·
               rw [if_pos c52] at H
               have c52b0 : (t377 == t379) = true:=beq_iff_eq.mpr c52
               have c52b1 : (t377 != t379) = false:=bne_eq_false_iff_eq.mpr c52
               clear c52
               have H':=A_ H
               clear H
               go_wp2
               go_meet
               case rel=>exact ⟨_,((t381 != t383)),(by first|rfl|(simp;done)|(simp [*];done)),H',⟨by first|omega|exact Nat.le_refl _⟩,⟨by (with_reducible repeat (first|apply na|apply nd_|apply ne_));exact Kd.N_mono HO333.out (fun _ hk=>⟨hk.1.1,⟨hk.1.2.1,hk.2⟩⟩)⟩,⟨by (with_reducible repeat (first|apply na|apply nd_|apply ne_));exact Kd.N_mono HO336.out (fun _ hk=>⟨hk.1.1,⟨hk.1.2.1,hk.2⟩⟩)⟩,⟨by (with_reducible repeat (first|apply na|apply nd_|apply ne_));exact Kd.N_mono HO357.out (fun _ hk=>⟨hk.1.1,hk.2⟩)⟩,⟨by (with_reducible repeat (first|apply na|apply nd_|apply ne_));exact Kd.N_mono HO376.out (fun _ hk=>⟨hk.1,hk.2.1⟩)⟩,⟨by repeat (first|(with_reducible first|exact HB.out|apply ba|apply bb|apply bc|refine below_set ?_ (IsS56.ge HI330.out))|exact HB.out)⟩⟩
              ·
               rw [if_neg c52] at H
               have c52b0 : (t377 == t379) = false:=beq_eq_false_iff_ne.mpr c52
               have c52b1 : (t377 != t379) = true:=bne_iff_ne.mpr c52
               have H':=A_ H
               clear H
               go_wp2
               go_meet
               case rel=>exact ⟨_,(true),(by first|rfl|(simp;done)|(simp [*];done)),H',⟨by first|omega|exact Nat.le_refl _⟩,⟨by (with_reducible repeat (first|apply na|apply nd_|apply ne_));exact Kd.N_mono HO333.out (fun _ hk=>⟨hk.1.1,⟨hk.1.2.1,hk.2⟩⟩)⟩,⟨by (with_reducible repeat (first|apply na|apply nd_|apply ne_));exact Kd.N_mono HO336.out (fun _ hk=>⟨hk.1.1,⟨hk.1.2.1,hk.2⟩⟩)⟩,⟨by (with_reducible repeat (first|apply na|apply nd_|apply ne_));exact Kd.N_mono HO357.out (fun _ hk=>⟨hk.1.1,hk.2⟩)⟩,⟨by (with_reducible repeat (first|apply na|apply nd_|apply ne_));exact Kd.N_mono HO376.out (fun _ hk=>⟨hk.1,hk.2.1⟩)⟩,⟨by repeat (first|(with_reducible first|exact HB.out|apply ba|apply bb|apply bc|refine below_set ?_ (IsS56.ge HI330.out))|exact HB.out)⟩⟩
             ·
              rw [if_neg c51] at H
              have c51b0 : (t384 == 0) = false:=beq_eq_false_iff_ne.mpr c51
              have c51b1 : (t384 != 0) = true:=bne_iff_ne.mpr c51
              have H':=A_ H
              clear H
              go_wp2
              go_meet
              case rel=>exact ⟨_,(true),(by first|rfl|(simp;done)|(simp [*];done)),H',⟨by first|omega|exact Nat.le_refl _⟩,⟨by (with_reducible repeat (first|apply na|apply nd_|apply ne_));exact Kd.N_mono HO333.out (fun _ hk=>⟨hk.1.1,⟨hk.1.2.1,hk.2⟩⟩)⟩,⟨by (with_reducible repeat (first|apply na|apply nd_|apply ne_));exact Kd.N_mono HO336.out (fun _ hk=>⟨hk.1.1,⟨hk.1.2.1,hk.2⟩⟩)⟩,⟨by (with_reducible repeat (first|apply na|apply nd_|apply ne_));exact Kd.N_mono HO357.out (fun _ hk=>⟨hk.1.1,hk.2⟩)⟩,⟨by (with_reducible repeat (first|apply na|apply nd_|apply ne_));exact Kd.N_mono HO376.out (fun _ hk=>⟨hk.1,hk.2.1⟩)⟩,⟨by repeat (first|(with_reducible first|exact HB.out|apply ba|apply bb|apply bc|refine below_set ?_ (IsS56.ge HI330.out))|exact HB.out)⟩⟩
            ·
             rw [if_neg c50] at H
             have c50b0 : (t382 == 0) = false:=beq_eq_false_iff_ne.mpr c50
             have c50b1 : (t382 != 0) = true:=bne_iff_ne.mpr c50
             have H':=A_ H
             clear H
             go_wp2
             go_meet
             case rel=>exact ⟨_,(true),(by first|rfl|(simp;done)|(simp [*];done)),H',⟨by first|omega|exact Nat.le_refl _⟩,⟨by (with_reducible repeat (first|apply na|apply nd_|apply ne_));exact Kd.N_mono HO333.out (fun _ hk=>⟨hk.1.1,⟨hk.1.2.1,hk.2⟩⟩)⟩,⟨by (with_reducible repeat (first|apply na|apply nd_|apply ne_));exact Kd.N_mono HO336.out (fun _ hk=>⟨hk.1.1,⟨hk.1.2.1,hk.2⟩⟩)⟩,⟨by (with_reducible repeat (first|apply na|apply nd_|apply ne_));exact Kd.N_mono HO357.out (fun _ hk=>⟨hk.1.1,hk.2⟩)⟩,⟨by (with_reducible repeat (first|apply na|apply nd_|apply ne_));exact Kd.N_mono HO376.out (fun _ hk=>⟨hk.1,hk.2.1⟩)⟩,⟨by repeat (first|(with_reducible first|exact HB.out|apply ba|apply bb|apply bc|refine below_set ?_ (IsS56.ge HI330.out))|exact HB.out)⟩⟩
           ·
            rw [if_neg c49] at H
            have c49b0 : (t380 == 0) = false:=beq_eq_false_iff_ne.mpr c49
            have c49b1 : (t380 != 0) = true:=bne_iff_ne.mpr c49
            have H':=A_ H
            clear H
            go_wp2
            go_meet
            case rel=>exact ⟨_,(true),(by first|rfl|(simp;done)|(simp [*];done)),H',⟨by first|omega|exact Nat.le_refl _⟩,⟨by (with_reducible repeat (first|apply na|apply nd_|apply ne_));exact Kd.N_mono HO333.out (fun _ hk=>⟨hk.1.1,⟨hk.1.2.1,hk.2⟩⟩)⟩,⟨by (with_reducible repeat (first|apply na|apply nd_|apply ne_));exact Kd.N_mono HO336.out (fun _ hk=>⟨hk.1.1,⟨hk.1.2.1,hk.2⟩⟩)⟩,⟨by (with_reducible repeat (first|apply na|apply nd_|apply ne_));exact Kd.N_mono HO357.out (fun _ hk=>⟨hk.1.1,hk.2⟩)⟩,⟨by (with_reducible repeat (first|apply na|apply nd_|apply ne_));exact Kd.N_mono HO376.out (fun _ hk=>⟨hk.1,hk.2.1⟩)⟩,⟨by repeat (first|(with_reducible first|exact HB.out|apply ba|apply bb|apply bc|refine below_set ?_ (IsS56.ge HI330.out))|exact HB.out)⟩⟩
          ·
           rw [if_neg c48] at H
           have c48b0 : (t378 == 0) = false:=beq_eq_false_iff_ne.mpr c48
           have c48b1 : (t378 != 0) = true:=bne_iff_ne.mpr c48
           (first|rw [c48b0]|(simp only [i64_w,i32_w];rw [c48b0])|skip)
           have H':=A_ H
           clear H
           go_wp2
           go_meet
           case rel=>exact ⟨_,(true),(by first|rfl|(simp;done)|(simp [*];done)),H',⟨by first|omega|exact Nat.le_refl _⟩,⟨by (with_reducible repeat (first|apply na|apply nd_|apply ne_));exact Kd.N_mono HO333.out (fun _ hk=>⟨hk.1.1,⟨hk.1.2.1,hk.2⟩⟩)⟩,⟨by (with_reducible repeat (first|apply na|apply nd_|apply ne_));exact Kd.N_mono HO336.out (fun _ hk=>⟨hk.1.1,⟨hk.1.2.1,hk.2⟩⟩)⟩,⟨by (with_reducible repeat (first|apply na|apply nd_|apply ne_));exact Kd.N_mono HO357.out (fun _ hk=>⟨hk.1.1,hk.2⟩)⟩,⟨by (with_reducible repeat (first|apply na|apply nd_|apply ne_));exact Kd.N_mono HO376.out (fun _ hk=>⟨hk.1,hk.2.1⟩)⟩,⟨by repeat (first|(with_reducible first|exact HB.out|apply ba|apply bb|apply bc|refine below_set ?_ (IsS56.ge HI330.out))|exact HB.out)⟩⟩
         case rest =>
          clear HC23
          try clear c1
          try clear c2
          try clear p2
          try clear c3
          try clear c4
          try clear c5
          try clear c9
          try clear c11
          try clear c12
          try clear c15
          try clear c18
          try clear c28
          try clear c30
          try clear c48
          try clear c48b0
          try clear c48b1
          try clear c49
          try clear c49b0
          try clear c49b1
          try clear c50
          try clear c50b0
          try clear c50b1
          try clear c51
          try clear c51b0
          try clear c51b1
          try clear c52
          try clear c52b0
          try clear c52b1
          obtain ⟨kq,x108_22,rfl,HA,HJ22,HO_5,HO_6,HO_9,HO_10,HB⟩:=hcut
          cases kq with
          | zero=>exact absurd HA.out (by simp [shapesearchlaw16_ChannelsOrder.j0])
          | succ kj22 =>
           have H:=HA.out
           clear HA
           simp only [shapesearchlaw16_ChannelsOrder.j0] at H
           by_cases c53 : x108_22 = true
           ·
            subst c53
            have H1 : (some false) = some r:=by rw [if_pos rfl] at H;exact H
            clear H
            have H:=H1
            clear H1
            exact absurd ((Option.some.inj H).trans HTR_.out) (by decide)
           ·
            replace c53:=Bool.eq_false_iff.mpr c53
            subst c53
            have H1 : (if 0 < (t331.length : Int) then (if 0 < (t334.length : Int) then (if ((rd_L1 t331 0).length : Int) = ((rd_L1 t334 0).length : Int) then ((channels_Euclid.f kj22 t331 t334).bind fun bt387=>((channels_Euclid.f kj22 y355 y374).bind fun bt389=>((channels_Greatest.f kj22 t331 t334).bind fun bt391=>((channels_Greatest.f kj22 y355 y374).bind fun bt395=>(if bt387.2 = 0 then (if bt389.2 = 0 then (if bt387.1 = bt389.1 then (if bt391.2.2 = 0 then (if bt395.2.2 = 0 then (if (bt391.1 == bt395.1 && (bt391.2.1 == bt395.2.1)) = true then ((shapesearchlaw16_awake.f kj22).bind fun t399=>(some t399)) else (some false)) else (some false)) else (some false)) else (some false)) else (some false)) else (some false)))))) else ((shapesearchlaw16_awake.f kj22).bind fun t400=>(some t400))) else (none)) else (none)) = some r:=by rw [if_neg (show ¬ (false = true) by decide)] at H;exact H
            clear H
            have H:=H1
            clear H1
            by_cases c54 : 0 < (t331.length : Int)
            ·
             rw [if_pos c54] at H
             have c54b0 : decide (0 < (t331.length : Int)) = true:=decide_eq_true c54
             have c54b1 : decide (0 < t331.length) = true:=decide_eq_true (by omega)
             clear c54
             by_cases c55 : 0 < (t334.length : Int)
             ·
              rw [if_pos c55] at H
              have c55b0 : decide (0 < (t334.length : Int)) = true:=decide_eq_true c55
              have c55b1 : decide (0 < t334.length) = true:=decide_eq_true (by omega)
              clear c55
              by_cases c56 : ((rd_L1 t331 0).length : Int) = ((rd_L1 t334 0).length : Int)
              ·
               rw [if_pos c56] at H
               have c56b0 : (((rd_L1 t331 0).length : Int) == ((rd_L1 t334 0).length : Int)) = true:=beq_iff_eq.mpr c56
               have c56b1 : (((rd_L1 t331 0).length : Int) != ((rd_L1 t334 0).length : Int)) = false:=bne_eq_false_iff_eq.mpr c56
               have c56b2 : ((rd_L1 t331 0).length == (rd_L1 t334 0).length) = true:=by first|simpa using c56|(simp at c56 ⊢;omega)
               clear c56
               replace H:=Option.bind_eq_some_iff.mp H
               obtain ⟨⟨t387,t388⟩,A570,H⟩:=H
               replace H : ((channels_Euclid.f kj22 y355 y374).bind fun bt389=>((channels_Greatest.f kj22 t331 t334).bind fun bt391=>((channels_Greatest.f kj22 y355 y374).bind fun bt395=>(if t388 = 0 then (if bt389.2 = 0 then (if t387 = bt389.1 then (if bt391.2.2 = 0 then (if bt395.2.2 = 0 then (if (bt391.1 == bt395.1 && (bt391.2.1 == bt395.2.1)) = true then ((shapesearchlaw16_awake.f kj22).bind fun t399=>(some t399)) else (some false)) else (some false)) else (some false)) else (some false)) else (some false)) else (some false))))) = some r:=H
               have A57:=A_ A570
               clear A570
               replace H:=Option.bind_eq_some_iff.mp H
               obtain ⟨⟨t389,t390⟩,A580,H⟩:=H
               replace H : ((channels_Greatest.f kj22 t331 t334).bind fun bt391=>((channels_Greatest.f kj22 y355 y374).bind fun bt395=>(if t388 = 0 then (if t390 = 0 then (if t387 = t389 then (if bt391.2.2 = 0 then (if bt395.2.2 = 0 then (if (bt391.1 == bt395.1 && (bt391.2.1 == bt395.2.1)) = true then ((shapesearchlaw16_awake.f kj22).bind fun t399=>(some t399)) else (some false)) else (some false)) else (some false)) else (some false)) else (some false)) else (some false)))) = some r:=H
               have A58:=A_ A580
               clear A580
               replace H:=Option.bind_eq_some_iff.mp H
               obtain ⟨⟨t391,t392,t393⟩,A590,H⟩:=H
               replace H : ((channels_Greatest.f kj22 y355 y374).bind fun bt395=>(if t388 = 0 then (if t390 = 0 then (if t387 = t389 then (if t393 = 0 then (if bt395.2.2 = 0 then (if (t391 == bt395.1 && (t392 == bt395.2.1)) = true then ((shapesearchlaw16_awake.f kj22).bind fun t399=>(some t399)) else (some false)) else (some false)) else (some false)) else (some false)) else (some false)) else (some false))) = some r:=H
               have A59:=A_ A590
               clear A590
               replace H:=Option.bind_eq_some_iff.mp H
               obtain ⟨⟨t395,t396,t397⟩,A600,H⟩:=H
               replace H : (if t388 = 0 then (if t390 = 0 then (if t387 = t389 then (if t393 = 0 then (if t397 = 0 then (if (t391 == t395 && (t392 == t396)) = true then ((shapesearchlaw16_awake.f kj22).bind fun t399=>(some t399)) else (some false)) else (some false)) else (some false)) else (some false)) else (some false)) else (some false)) = some r:=H
               have A60:=A_ A600
               clear A600
               have HC61:=A_ H
               clear H
               try go_wp2
               have n0_:=A_ (Kd.N_drew HO_5.out)
               have n1_:=A_ (Kd.N_drew HO_6.out)
               have n2_:=A_ (Kd.N_drew HO_9.out)
               have n3_:=A_ (Kd.N_drew HO_10.out)
               have n4_:=A_ (below_drew1 HB.out)
               clear HO_5
               clear HO_6
               clear HO_9
               clear HO_10
               clear HB
               have HO_5:=n0_
               have HO_6:=n1_
               have HO_9:=n2_
               have HO_10:=n3_
               have HB:=n4_
               clear n0_ n1_ n2_ n3_ n4_
               have p385 : 0 ≤ (0 : Int):=(by omega)
               have q385 : 0 < (t331.length : Int):=of_decide_eq_true (by first|(with_reducible assumption)|assumption)
               obtain ⟨ad385,A385_0,c385_0,e385,hx385_0,hl385_0,hi385_0⟩:=at_L1 (Kd.N_reads' HO_5.out).2.2 0 p385 q385
               cases e385
               obtain ⟨ce385,hce385,hMe385,hcc385⟩:=Kd.N_get HO_5.out [] 0 p385 (by first|exact q385|exact of_decide_eq_true (by first|(with_reducible assumption)|assumption)|(have e_:=(Kd.N_reads' HO_5.out).1;omega))
               obtain ⟨ua385_0,uc385_0,rfl,ul385_0,ge385_0⟩:=Kd.FK_slice_open hMe385
               have hv385_0:=hcc385 0 _ rfl
               rw [Nat.add_zero,show ((Kd.slice 3 (Kd.int .i64))).sz = 1 from rfl,Nat.mul_one] at hv385_0
               replace hv385_0:=Option.some.inj (hv385_0.symm.trans hx385_0)
               injection hv385_0 with hva_ hvn_ hvc_
               rw [hva_] at ge385_0
               rw [hvc_] at ul385_0
               have HL385_0:=A_ (show Kd.V (Kd.int .i64) 3 _ w.heap.size _ _ (rd_L1 t331 0) from Kd.V_mk ul385_0 ge385_0)
               clear hva_ hvn_ hvc_ ge385_0 ul385_0
               clear hcc385 hce385
               have qi385 : (0 < t331.length) = True:=eq_true (by omega)
               (try rw [show ((0 : Int)).toNat = 0 from rfl] at hx385_0)
               (try rw [Addr.add_zero'] at hx385_0)
               have HR385_0:=A_ hi385_0
               have HC385_0:=A_ hl385_0
               clear hi385_0 hl385_0
               replace p385:=eq_true p385
               replace q385:=eq_true q385
               have p386 : 0 ≤ (0 : Int):=(by omega)
               have q386 : 0 < (t334.length : Int):=of_decide_eq_true (by first|(with_reducible assumption)|assumption)
               obtain ⟨ad386,A386_0,c386_0,e386,hx386_0,hl386_0,hi386_0⟩:=at_L1 (Kd.N_reads' HO_6.out).2.2 0 p386 q386
               cases e386
               obtain ⟨ce386,hce386,hMe386,hcc386⟩:=Kd.N_get HO_6.out [] 0 p386 (by first|exact q386|exact of_decide_eq_true (by first|(with_reducible assumption)|assumption)|(have e_:=(Kd.N_reads' HO_6.out).1;omega))
               obtain ⟨ua386_0,uc386_0,rfl,ul386_0,ge386_0⟩:=Kd.FK_slice_open hMe386
               have hv386_0:=hcc386 0 _ rfl
               rw [Nat.add_zero,show ((Kd.slice 3 (Kd.int .i64))).sz = 1 from rfl,Nat.mul_one] at hv386_0
               replace hv386_0:=Option.some.inj (hv386_0.symm.trans hx386_0)
               injection hv386_0 with hva_ hvn_ hvc_
               rw [hva_] at ge386_0
               rw [hvc_] at ul386_0
               have HL386_0:=A_ (show Kd.V (Kd.int .i64) 3 _ w.heap.size _ _ (rd_L1 t334 0) from Kd.V_mk ul386_0 ge386_0)
               clear hva_ hvn_ hvc_ ge386_0 ul386_0
               clear hcc386 hce386
               have qi386 : (0 < t334.length) = True:=eq_true (by omega)
               (try rw [show ((0 : Int)).toNat = 0 from rfl] at hx386_0)
               (try rw [Addr.add_zero'] at hx386_0)
               have HR386_0:=A_ hi386_0
               have HC386_0:=A_ hl386_0
               clear hi386_0 hl386_0
               replace p386:=eq_true p386
               replace q386:=eq_true q386
               refine start_ (n:=9) (S:=fun w'=>w'.cell? ad385 = some (.slice A385_0 (rd_L1 t331 0).length c385_0)∧w'.cell? ad386 = some (.slice A386_0 (rd_L1 t334 0).length c386_0)) (ds:=[]) #[false,false,false,false,false,false,false,false,false] (by kernel_rfl) rfl rfl ⟨hx385_0,hx386_0⟩ (fun hHeld=>?_);refine with_tabW shapesearchlaw16_ChannelsOrder.tab10 shapesearchlaw16_ChannelsOrder.bits10 (fun HT_ HW_=>?_)
               generalize wc.drew = w62 at HO_5 HO_6 HO_9 HO_10 HB HL385_0 HL386_0 HR385_0 HR386_0 hx385_0 hx386_0 hHeld ⊢
               refine pure_ (i:=0) (N:=some 109) (v:=?_) (a':=?_) #[true,false,false,false,false,false,false,false,false] rfl rfl (any_of HT_.out (by kernel_rfl)) (fun _ _ _ h=>h) (Or.inl ⟨by rfl,?_⟩) ?_ ?_
               rotate_left
               ·
                intro w'
                go_simp
                with_reducible rfl
               rotate_left
               ·
                simp only [Act.put,sa,sb,sc,i64_w,i32_w]
                rfl
               refine pure_ (i:=1) (N:=some 110) (v:=?_) (a':=?_) #[true,true,false,false,false,false,false,false,false] rfl rfl (any_of HT_.out (by kernel_rfl)) (fun _ _ _ h=>h) (Or.inl ⟨by rfl,?_⟩) ?_ ?_
               rotate_left
               ·
                intro w'
                go_simp
                with_reducible rfl
               rotate_left
               ·
                simp only [Act.put,sa,sb,sc,i64_w,i32_w]
                rfl
               refine pure_ (i:=4) (N:=some 113) (v:=?_) (a':=?_) #[true,true,false,false,true,false,false,false,false] rfl rfl (any_of HT_.out (by kernel_rfl)) (fun _ _ _ h=>h) (Or.inl ⟨by rfl,?_⟩) ?_ ?_
               rotate_left
               ·
                intro w'
                go_simp
                with_reducible rfl
               rotate_left
               ·
                simp only [Act.put,sa,sb,sc,i64_w,i32_w]
                rfl
               refine pure_ (i:=5) (N:=some 114) (v:=?_) (a':=?_) #[true,true,false,false,true,true,false,false,false] rfl rfl (any_of HT_.out (by kernel_rfl)) (fun _ _ _ h=>h) (Or.inl ⟨by rfl,?_⟩) ?_ ?_
               rotate_left
               ·
                intro w'
                go_simp
                with_reducible rfl
               rotate_left
               ·
                simp only [Act.put,sa,sb,sc,i64_w,i32_w]
                rfl
               refine take_ (i:=2) (N:=some 111) (v:=?_) (a':=?_) #[true,true,true,false,true,true,false,false,false] rfl rfl (take_ofW HT_.out HW_.out (by kernel_rfl)) (fun _ _ _ h=>h) (Or.inl ⟨by rfl,?_⟩) hHeld ?_ ?_
               rotate_left
               ·
                rintro w' ⟨s0,s1⟩
                go_simp
                with_reducible rfl
               rotate_left
               ·
                simp only [Act.put,sa,sb,sc,i64_w,i32_w]
                rfl
               refine pure_ (i:=3) (N:=some 112) (v:=?_) (a':=?_) #[true,true,true,true,true,true,false,false,false] rfl rfl (any_of HT_.out (by kernel_rfl)) (fun _ _ _ h=>h) (Or.inl ⟨by rfl,?_⟩) ?_ ?_
               rotate_left
               ·
                intro w'
                go_simp
                with_reducible rfl
               rotate_left
               ·
                simp only [Act.put,sa,sb,sc,i64_w,i32_w]
                rfl
               refine take_ (i:=6) (N:=some 115) (v:=?_) (a':=?_) #[true,true,true,true,true,true,true,false,false] rfl rfl (take_ofW HT_.out HW_.out (by kernel_rfl)) (fun _ _ _ h=>h) (Or.inl ⟨by rfl,?_⟩) hHeld ?_ ?_
               rotate_left
               ·
                rintro w' ⟨s0,s1⟩
                go_simp
                with_reducible rfl
               rotate_left
               ·
                simp only [Act.put,sa,sb,sc,i64_w,i32_w]
                rfl
               refine pure_ (i:=7) (N:=some 116) (v:=?_) (a':=?_) #[true,true,true,true,true,true,true,true,false] rfl rfl (any_of HT_.out (by kernel_rfl)) (fun _ _ _ h=>h) (Or.inl ⟨by rfl,?_⟩) ?_ ?_
               rotate_left
               ·
                intro w'
                go_simp
                with_reducible rfl
               rotate_left
               ·
                simp only [Act.put,sa,sb,sc,i64_w,i32_w]
                rfl
               refine pure_ (i:=8) (N:=some 117) (v:=?_) (a':=?_) #[true,true,true,true,true,true,true,true,true] rfl rfl (any_of HT_.out (by kernel_rfl)) (fun _ _ _ h=>h) (Or.inl ⟨by rfl,?_⟩) ?_ ?_
               rotate_left
               ·
                intro w'
                go_simp
                with_reducible rfl
               rotate_left
               ·
                simp only [Act.put,sa,sb,sc,i64_w,i32_w]
                rfl
               refine done_ (done_of HT_.out (by kernel_rfl)) ?_
               go_upto_region 15 with (first|((with_reducible refine gate_callee (f:=14) rfl ?_);refine goesL_ (some 121) rfl rfl Try.func14 (by kernel_rfl) rfl #[.slice (some ad385) t331.length co26,.slice (some ad386) t334.length co31] rfl (by (try simp only [List.map_toArray,List.map_cons,List.map_nil]);first|done|rfl|(simp only [List.length_drop,List.length_take];rfl)|((try rw [KY28.out]);(try rw [KY29.out]);(try rw [KY30.out]);(try rw [KY32.out]);rfl)) ?_;(with_reducible refine (channels_Euclid.calls kj22 _ _ t331 _ _ t334 t387 t388 _ ?side1 ?side2 ?side3 ?side4 A57.out).mono ?_);(case side1=>repeat (first|exact (Kd.N_reads' HO_5.out).2.2|(with_reducible refine ca ?_ _)|(with_reducible refine cb ?_ _)|(with_reducible refine cc ?_)));(case side2=>exact (Kd.N_reads' HO_5.out).2.1);(case side3=>repeat (first|exact (Kd.N_reads' HO_6.out).2.2|(with_reducible refine ca ?_ _)|(with_reducible refine cb ?_ _)|(with_reducible refine cc ?_)));(case side4=>exact (Kd.N_reads' HO_6.out).2.1);rintro e w63 ⟨rfl,hb⟩;refine ⟨_,rfl,?_⟩;have n0_:=A_ (Kd.N_below (by (with_reducible repeat (first|apply na|apply nd_|apply ne_));exact HO_5.out) hb);have n1_:=A_ (Kd.N_below (by (with_reducible repeat (first|apply na|apply nd_|apply ne_));exact HO_6.out) hb);have n2_:=A_ (Kd.N_below (by (with_reducible repeat (first|apply na|apply nd_|apply ne_));exact HO_9.out) hb);have n3_:=A_ (Kd.N_below (by (with_reducible repeat (first|apply na|apply nd_|apply ne_));exact HO_10.out) hb);have n4_:=A_ (Kd.V_below (by (with_reducible repeat (first|apply Kd.V_alloc|apply Kd.V_drewN|apply Kd.V_drew));exact HL385_0.out) hb);have n5_:=A_ (Kd.V_below (by (with_reducible repeat (first|apply Kd.V_alloc|apply Kd.V_drewN|apply Kd.V_drew));exact HL386_0.out) hb);have n6_:=A_ (cl (by repeat (first|(with_reducible exact HR385_0.out)|(with_reducible refine ca ?_ _)|(with_reducible refine cb ?_ _)|(with_reducible refine cc ?_)|exact HR385_0.out)) hb);have n7_:=A_ (cl (by repeat (first|(with_reducible exact HR386_0.out)|(with_reducible refine ca ?_ _)|(with_reducible refine cb ?_ _)|(with_reducible refine cc ?_)|exact HR386_0.out)) hb);have n8_:=A_ (below_step (by repeat (first|(with_reducible first|exact HB.out|apply ba|apply bb|apply bc)|exact HB.out)) hb);clear HO_5;clear HO_6;clear HO_9;clear HO_10;clear HL385_0;clear HL386_0;clear HR385_0;clear HR386_0;clear HB;have HO_5:=n0_;have HO_6:=n1_;have HO_9:=n2_;have HO_10:=n3_;have HL385_0:=n4_;have HL386_0:=n5_;have HR385_0:=n6_;have HR386_0:=n7_;have HB:=n8_;clear n0_ n1_ n2_ n3_ n4_ n5_ n6_ n7_ n8_;(try clear hb);(try clear hb2);(try clear hk);(try clear hi))|((with_reducible refine gate_callee (f:=14) rfl ?_);refine goesL_ (some 127) rfl rfl Try.func14 (by kernel_rfl) rfl #[.slice Ao43 y355.length co43,.slice Ao44 y374.length co44] rfl (by (try simp only [List.map_toArray,List.map_cons,List.map_nil]);first|done|rfl|(simp only [List.length_drop,List.length_take];rfl)|((try rw [KY28.out]);(try rw [KY29.out]);(try rw [KY30.out]);(try rw [KY32.out]);rfl)) ?_;(with_reducible refine (channels_Euclid.calls kj22 _ _ y355 _ _ y374 t389 t390 _ ?side1 ?side2 ?side3 ?side4 A58.out).mono ?_);(case side1=>repeat (first|exact (Kd.N_reads' HO_9.out).2.2|(with_reducible refine ca ?_ _)|(with_reducible refine cb ?_ _)|(with_reducible refine cc ?_)));(case side2=>exact (Kd.N_reads' HO_9.out).2.1);(case side3=>repeat (first|exact (Kd.N_reads' HO_10.out).2.2|(with_reducible refine ca ?_ _)|(with_reducible refine cb ?_ _)|(with_reducible refine cc ?_)));(case side4=>exact (Kd.N_reads' HO_10.out).2.1);rintro e w64 ⟨rfl,hb⟩;refine ⟨_,rfl,?_⟩;have n0_:=A_ (Kd.N_below (by (with_reducible repeat (first|apply na|apply nd_|apply ne_));exact HO_5.out) hb);have n1_:=A_ (Kd.N_below (by (with_reducible repeat (first|apply na|apply nd_|apply ne_));exact HO_6.out) hb);have n2_:=A_ (Kd.N_below (by (with_reducible repeat (first|apply na|apply nd_|apply ne_));exact HO_9.out) hb);have n3_:=A_ (Kd.N_below (by (with_reducible repeat (first|apply na|apply nd_|apply ne_));exact HO_10.out) hb);have n4_:=A_ (Kd.V_below (by (with_reducible repeat (first|apply Kd.V_alloc|apply Kd.V_drewN|apply Kd.V_drew));exact HL385_0.out) hb);have n5_:=A_ (Kd.V_below (by (with_reducible repeat (first|apply Kd.V_alloc|apply Kd.V_drewN|apply Kd.V_drew));exact HL386_0.out) hb);have n6_:=A_ (cl (by repeat (first|(with_reducible exact HR385_0.out)|(with_reducible refine ca ?_ _)|(with_reducible refine cb ?_ _)|(with_reducible refine cc ?_)|exact HR385_0.out)) hb);have n7_:=A_ (cl (by repeat (first|(with_reducible exact HR386_0.out)|(with_reducible refine ca ?_ _)|(with_reducible refine cb ?_ _)|(with_reducible refine cc ?_)|exact HR386_0.out)) hb);have n8_:=A_ (below_step (by repeat (first|(with_reducible first|exact HB.out|apply ba|apply bb|apply bc)|exact HB.out)) hb);clear HO_5;clear HO_6;clear HO_9;clear HO_10;clear HL385_0;clear HL386_0;clear HR385_0;clear HR386_0;clear HB;have HO_5:=n0_;have HO_6:=n1_;have HO_9:=n2_;have HO_10:=n3_;have HL385_0:=n4_;have HL386_0:=n5_;have HR385_0:=n6_;have HR386_0:=n7_;have HB:=n8_;clear n0_ n1_ n2_ n3_ n4_ n5_ n6_ n7_ n8_;(try clear hb);(try clear hb2);(try clear hk);(try clear hi))|((with_reducible refine gate_callee (f:=16) rfl ?_);refine goesL_ (some 133) rfl rfl Try.func16 (by kernel_rfl) rfl #[.slice (some ad385) t331.length co26,.slice (some ad386) t334.length co31] rfl (by (try simp only [List.map_toArray,List.map_cons,List.map_nil]);first|done|rfl|(simp only [List.length_drop,List.length_take];rfl)|((try rw [KY28.out]);(try rw [KY29.out]);(try rw [KY30.out]);(try rw [KY32.out]);rfl)) ?_;(with_reducible refine (channels_Greatest.calls kj22 _ _ t331 _ _ t334 t391 t392 t393 _ ?side1 ?side2 ?side3 ?side4 A59.out).mono ?_);(case side1=>repeat (first|exact (Kd.N_reads' HO_5.out).2.2|(with_reducible refine ca ?_ _)|(with_reducible refine cb ?_ _)|(with_reducible refine cc ?_)));(case side2=>exact (Kd.N_reads' HO_5.out).2.1);(case side3=>repeat (first|exact (Kd.N_reads' HO_6.out).2.2|(with_reducible refine ca ?_ _)|(with_reducible refine cb ?_ _)|(with_reducible refine cc ?_)));(case side4=>exact (Kd.N_reads' HO_6.out).2.1);rintro e w65 ⟨rfl,hb⟩;refine ⟨_,rfl,?_⟩;have n0_:=A_ (Kd.N_below (by (with_reducible repeat (first|apply na|apply nd_|apply ne_));exact HO_5.out) hb);have n1_:=A_ (Kd.N_below (by (with_reducible repeat (first|apply na|apply nd_|apply ne_));exact HO_6.out) hb);have n2_:=A_ (Kd.N_below (by (with_reducible repeat (first|apply na|apply nd_|apply ne_));exact HO_9.out) hb);have n3_:=A_ (Kd.N_below (by (with_reducible repeat (first|apply na|apply nd_|apply ne_));exact HO_10.out) hb);have n4_:=A_ (Kd.V_below (by (with_reducible repeat (first|apply Kd.V_alloc|apply Kd.V_drewN|apply Kd.V_drew));exact HL385_0.out) hb);have n5_:=A_ (Kd.V_below (by (with_reducible repeat (first|apply Kd.V_alloc|apply Kd.V_drewN|apply Kd.V_drew));exact HL386_0.out) hb);have n6_:=A_ (cl (by repeat (first|(with_reducible exact HR385_0.out)|(with_reducible refine ca ?_ _)|(with_reducible refine cb ?_ _)|(with_reducible refine cc ?_)|exact HR385_0.out)) hb);have n7_:=A_ (cl (by repeat (first|(with_reducible exact HR386_0.out)|(with_reducible refine ca ?_ _)|(with_reducible refine cb ?_ _)|(with_reducible refine cc ?_)|exact HR386_0.out)) hb);have n8_:=A_ (below_step (by repeat (first|(with_reducible first|exact HB.out|apply ba|apply bb|apply bc)|exact HB.out)) hb);clear HO_5;clear HO_6;clear HO_9;clear HO_10;clear HL385_0;clear HL386_0;clear HR385_0;clear HR386_0;clear HB;have HO_5:=n0_;have HO_6:=n1_;have HO_9:=n2_;have HO_10:=n3_;have HL385_0:=n4_;have HL386_0:=n5_;have HR385_0:=n6_;have HR386_0:=n7_;have HB:=n8_;clear n0_ n1_ n2_ n3_ n4_ n5_ n6_ n7_ n8_;(try clear hb);(try clear hb2);(try clear hk);(try clear hi))|((with_reducible refine gate_dst (N:=23) rfl ?_);refine box_event ?hg (N:=23) ?hd (cs:=#[.int .i64 0,.int .i64 0]) (t:=36) ?hr ?_;(case hd=>rfl);(case hg=>rfl);(case hr=>first|(go_simp;done)|(go_simp;rfl));intro gb394 hg w66 hbox hb;have n0_:=A_ (Kd.N_below (Kd.N_elderB (by (with_reducible repeat (first|apply na|apply nd_|apply ne_));exact HO_5.out) gb394 (Nat.le_of_eq hg.symm)) hb);have n1_:=A_ (Kd.N_below (Kd.N_elderB (by (with_reducible repeat (first|apply na|apply nd_|apply ne_));exact HO_6.out) gb394 (Nat.le_of_eq hg.symm)) hb);have n2_:=A_ (Kd.N_below (Kd.N_elderB (by (with_reducible repeat (first|apply na|apply nd_|apply ne_));exact HO_9.out) gb394 (Nat.le_of_eq hg.symm)) hb);have n3_:=A_ (Kd.N_below (Kd.N_elderB (by (with_reducible repeat (first|apply na|apply nd_|apply ne_));exact HO_10.out) gb394 (Nat.le_of_eq hg.symm)) hb);have n4_:=A_ (Kd.V_below (Kd.V_elderB (by (with_reducible repeat (first|apply Kd.V_alloc|apply Kd.V_drewN|apply Kd.V_drew));exact HL385_0.out) gb394 (Nat.le_of_eq hg.symm)) hb);have n5_:=A_ (Kd.V_below (Kd.V_elderB (by (with_reducible repeat (first|apply Kd.V_alloc|apply Kd.V_drewN|apply Kd.V_drew));exact HL386_0.out) gb394 (Nat.le_of_eq hg.symm)) hb);have n6_:=A_ (cl (by repeat (first|(with_reducible exact HR385_0.out)|(with_reducible refine ca ?_ _)|(with_reducible refine cb ?_ _)|(with_reducible refine cc ?_)|exact HR385_0.out)) hb);have n7_:=A_ (cl (by repeat (first|(with_reducible exact HR386_0.out)|(with_reducible refine ca ?_ _)|(with_reducible refine cb ?_ _)|(with_reducible refine cc ?_)|exact HR386_0.out)) hb);have n8_:=A_ (below_step (by repeat (first|(with_reducible first|exact HB.out|apply ba|apply bb|apply bc)|exact HB.out)) hb);have n9_:=A_ (hbox);have n10_:=A_ ((by rw [hg];exact (below_size (by repeat (first|(with_reducible first|exact HB.out|apply ba|apply bb|apply bc)|exact HB.out))) : w.heap.size ≤ gb394));have n11_:=A_ ((by rw [hg];exact (below_size (by repeat (first|(with_reducible first|exact HB.out|apply ba|apply bb|apply bc)|exact HB.out))) : w.heap.size ≤ gb394));have n12_:=A_ (CF.new (by repeat (first|(with_reducible exact HR385_0.out)|(with_reducible refine ca ?_ _)|(with_reducible refine cb ?_ _)|(with_reducible refine cc ?_)|exact HR385_0.out)) hg hb);have n13_:=A_ (CF.new (by repeat (first|(with_reducible exact HR386_0.out)|(with_reducible refine ca ?_ _)|(with_reducible refine cb ?_ _)|(with_reducible refine cc ?_)|exact HR386_0.out)) hg hb);clear HO_5;clear HO_6;clear HO_9;clear HO_10;clear HL385_0;clear HL386_0;clear HR385_0;clear HR386_0;clear HB;have HO_5:=n0_;have HO_6:=n1_;have HO_9:=n2_;have HO_10:=n3_;have HL385_0:=n4_;have HL386_0:=n5_;have HR385_0:=n6_;have HR386_0:=n7_;have HB:=n8_;have BK394:=n9_;have GW394:=n10_;have GE394:=n11_;have HZ385_0_394:=n12_;have HZ386_0_394:=n13_;clear n0_ n1_ n2_ n3_ n4_ n5_ n6_ n7_ n8_ n9_ n10_ n11_ n12_ n13_;clear hb hbox hg;have hcz67_0 : w66.cell? ⟨gb394,0,none⟩ = some (.int .i64 0):=(blk_cell BK394.out 0).trans rfl;have hcz67_1 : w66.cell? ⟨gb394,1,none⟩ = some (.int .i64 0):=(blk_cell BK394.out 1).trans rfl;have hfz67_0:=blk_frozen BK394.out 0;have hfz67_1:=blk_frozen BK394.out 1)|((with_reducible refine gate_store (t:=36) (p:=23) rfl ?_);refine store_event (t:=36) (p:=23) (v:=?vo_w68) (w1:=((w66.setCell ⟨gb394,0,none⟩ (.int .i64 t391)).setCell ⟨gb394,1,none⟩ (.int .i64 t392))) ?hg ?ho ?hn ?hr ?_;(case ho=>rfl);(case hg=>rfl);(case hn=>rfl);(case hr=>first|(go_simp;done)|(go_simp;rfl));intro w68 hw;have n0_ : Aside0 (Kd.N (Kd.slice 3 (Kd.int .i64)) 22 w68 w.heap.size (fun k_=>some k_≠(.slice (some ad386) t334.length co31 : Value).ownBlock∧nb k_ (.slice Ao43 y355.length co43)∧nb k_ (.slice Ao44 y374.length co44)∧k_≠gb394) (.slice (some ad385) t331.length co26) t331):=⟨(by rw [hw];exact (by (with_reducible repeat (first|apply na|apply nd_|apply ne_));exact Kd.N_mono (Kd.N_far (p:=⟨gb394,1,none⟩) (Kd.N_far (p:=⟨gb394,0,none⟩) (Kd.N_mono HO_5.out (fun k_ hk=>(⟨hk,hk.2⟩ : _∧k_≠gb394))) (fun _ hk=>hk.2) (.int .i64 t391)) (fun _ hk=>hk.2) (.int .i64 t392)) (fun _ hk=>⟨hk.1.1.1,⟨hk.1.1.2.1,⟨hk.1.1.2.2,hk.1.2⟩⟩⟩)))⟩;have n1_ : Aside0 (Kd.N (Kd.slice 3 (Kd.int .i64)) 22 w68 w.heap.size (fun k_=>some k_≠(.slice (some ad385) t331.length co26 : Value).ownBlock∧nb k_ (.slice Ao43 y355.length co43)∧nb k_ (.slice Ao44 y374.length co44)∧k_≠gb394) (.slice (some ad386) t334.length co31) t334):=⟨(by rw [hw];exact (by (with_reducible repeat (first|apply na|apply nd_|apply ne_));exact Kd.N_mono (Kd.N_far (p:=⟨gb394,1,none⟩) (Kd.N_far (p:=⟨gb394,0,none⟩) (Kd.N_mono HO_6.out (fun k_ hk=>(⟨hk,hk.2⟩ : _∧k_≠gb394))) (fun _ hk=>hk.2) (.int .i64 t391)) (fun _ hk=>hk.2) (.int .i64 t392)) (fun _ hk=>⟨hk.1.1.1,⟨hk.1.1.2.1,⟨hk.1.1.2.2,hk.1.2⟩⟩⟩)))⟩;have n2_ : Aside0 (Kd.N (Kd.slice 3 (Kd.int .i64)) 22 w68 w.heap.size (fun k_=>some k_≠(.slice (some ad386) t334.length co31 : Value).ownBlock∧nb k_ (.slice Ao44 y374.length co44)∧k_≠gb394) (.slice Ao43 y355.length co43) y355):=⟨(by rw [hw];exact (by (with_reducible repeat (first|apply na|apply nd_|apply ne_));exact Kd.N_mono (Kd.N_far (p:=⟨gb394,1,none⟩) (Kd.N_far (p:=⟨gb394,0,none⟩) (Kd.N_mono HO_9.out (fun k_ hk=>(⟨hk,hk.2⟩ : _∧k_≠gb394))) (fun _ hk=>hk.2) (.int .i64 t391)) (fun _ hk=>hk.2) (.int .i64 t392)) (fun _ hk=>⟨hk.1.1.1,⟨hk.1.1.2,hk.1.2⟩⟩)))⟩;have n3_ : Aside0 (Kd.N (Kd.slice 3 (Kd.int .i64)) 22 w68 w.heap.size (fun k_=>some k_≠(.slice (some ad385) t331.length co26 : Value).ownBlock∧nb k_ (.slice Ao43 y355.length co43)∧k_≠gb394) (.slice Ao44 y374.length co44) y374):=⟨(by rw [hw];exact (by (with_reducible repeat (first|apply na|apply nd_|apply ne_));exact Kd.N_mono (Kd.N_far (p:=⟨gb394,1,none⟩) (Kd.N_far (p:=⟨gb394,0,none⟩) (Kd.N_mono HO_10.out (fun k_ hk=>(⟨hk,hk.2⟩ : _∧k_≠gb394))) (fun _ hk=>hk.2) (.int .i64 t391)) (fun _ hk=>hk.2) (.int .i64 t392)) (fun _ hk=>⟨hk.1.1.1,⟨hk.1.1.2,hk.1.2⟩⟩)))⟩;have n4_ : Aside0 (Kd.V (Kd.int .i64) 3 w68 w.heap.size (fun k_=>some k_≠(.slice (some ad385) t331.length co26 : Value).ownBlock∧some k_≠(.slice (some ad386) t334.length co31 : Value).ownBlock∧nb k_ (.slice Ao43 y355.length co43)∧nb k_ (.slice Ao44 y374.length co44)∧k_≠gb394) (.slice A385_0 (rd_L1 t331 0).length c385_0) (rd_L1 t331 0)):=⟨(by rw [hw];exact (by (with_reducible repeat (first|apply Kd.V_alloc|apply Kd.V_drewN|apply Kd.V_drew));exact Kd.V_mono (Kd.V_far (p:=⟨gb394,1,none⟩) (Kd.V_far (p:=⟨gb394,0,none⟩) (Kd.V_mono HL385_0.out (fun k_ hk=>(⟨hk,hk.2⟩ : _∧k_≠gb394))) (fun _ hk=>hk.2) (.int .i64 t391)) (fun _ hk=>hk.2) (.int .i64 t392)) (fun _ hk=>⟨hk.1.1.2,⟨hk.1.1.1.1,⟨hk.1.1.1.2.1,⟨hk.1.1.1.2.2,hk.1.2⟩⟩⟩⟩)))⟩;have n5_ : Aside0 (Kd.V (Kd.int .i64) 3 w68 w.heap.size (fun k_=>some k_≠(.slice (some ad385) t331.length co26 : Value).ownBlock∧some k_≠(.slice (some ad386) t334.length co31 : Value).ownBlock∧nb k_ (.slice Ao43 y355.length co43)∧nb k_ (.slice Ao44 y374.length co44)∧k_≠gb394) (.slice A386_0 (rd_L1 t334 0).length c386_0) (rd_L1 t334 0)):=⟨(by rw [hw];exact (by (with_reducible repeat (first|apply Kd.V_alloc|apply Kd.V_drewN|apply Kd.V_drew));exact Kd.V_mono (Kd.V_far (p:=⟨gb394,1,none⟩) (Kd.V_far (p:=⟨gb394,0,none⟩) (Kd.V_mono HL386_0.out (fun k_ hk=>(⟨hk,hk.2⟩ : _∧k_≠gb394))) (fun _ hk=>hk.2) (.int .i64 t391)) (fun _ hk=>hk.2) (.int .i64 t392)) (fun _ hk=>⟨hk.1.1.1.1,⟨hk.1.1.2,⟨hk.1.1.1.2.1,⟨hk.1.1.1.2.2,hk.1.2⟩⟩⟩⟩)))⟩;have n6_ : Aside0 (w68.heap[gb394]? = some (.cells #[.int .i64 t391,.int .i64 t392] 36 (0,0))):=⟨(by rw [hw];exact (by (with_reducible repeat (first|refine blk_drewN ?_ _|refine blk_drew ?_|refine blk_alloc ?_ _));refine blk_put (cs:=#[.int .i64 t391,.int .i64 0]) ?_ 1 _ rfl;(with_reducible repeat (first|refine blk_drewN ?_ _|refine blk_drew ?_|refine blk_alloc ?_ _));refine blk_put (cs:=#[.int .i64 0,.int .i64 0]) ?_ 0 _ rfl;(with_reducible repeat (first|refine blk_drewN ?_ _|refine blk_drew ?_|refine blk_alloc ?_ _));exact BK394.out))⟩;have n7_ : Aside0 (Below w.heap.size w w68):=⟨(by rw [hw];exact (by repeat (first|(with_reducible first|exact HB.out|apply ba|apply bb|apply bc|refine below_set ?_ GE394.out)|exact HB.out)))⟩;have n8_ : Aside0 (Kd.C (Kd.int .i64) w68 A385_0 (rd_L1 t331 0).length (rd_L1 t331 0)):=⟨(by rw [hw];exact (CF.C (by repeat (first|exact HZ385_0_394.out|refine CF.set ?_ _ _|refine CF.drewN ?_ _|refine CF.drew ?_|refine CF.alloc ?_ _))))⟩;have n9_ : Aside0 (Kd.C (Kd.int .i64) w68 A386_0 (rd_L1 t334 0).length (rd_L1 t334 0)):=⟨(by rw [hw];exact (CF.C (by repeat (first|exact HZ386_0_394.out|refine CF.set ?_ _ _|refine CF.drewN ?_ _|refine CF.drew ?_|refine CF.alloc ?_ _))))⟩;clear hw;clear HO_5;clear HO_6;clear HO_9;clear HO_10;clear HL385_0;clear HL386_0;clear BK394;clear HB;clear HR385_0;clear HR386_0;have HO_5:=n0_;have HO_6:=n1_;have HO_9:=n2_;have HO_10:=n3_;have HL385_0:=n4_;have HL386_0:=n5_;have BK394:=n6_;have HB:=n7_;have HR385_0:=n8_;have HR386_0:=n9_;clear n0_ n1_ n2_ n3_ n4_ n5_ n6_ n7_ n8_ n9_)|((with_reducible refine gate_callee (f:=16) rfl ?_);refine goesL_ (some 139) rfl rfl Try.func16 (by kernel_rfl) rfl #[.slice Ao43 y355.length co43,.slice Ao44 y374.length co44] rfl (by (try simp only [List.map_toArray,List.map_cons,List.map_nil]);first|done|rfl|(simp only [List.length_drop,List.length_take];rfl)|((try rw [KY28.out]);(try rw [KY29.out]);(try rw [KY30.out]);(try rw [KY32.out]);rfl)) ?_;(with_reducible refine (channels_Greatest.calls kj22 _ _ y355 _ _ y374 t395 t396 t397 _ ?side1 ?side2 ?side3 ?side4 A60.out).mono ?_);(case side1=>repeat (first|exact (Kd.N_reads' HO_9.out).2.2|(with_reducible refine ca ?_ _)|(with_reducible refine cb ?_ _)|(with_reducible refine cc ?_)));(case side2=>exact (Kd.N_reads' HO_9.out).2.1);(case side3=>repeat (first|exact (Kd.N_reads' HO_10.out).2.2|(with_reducible refine ca ?_ _)|(with_reducible refine cb ?_ _)|(with_reducible refine cc ?_)));(case side4=>exact (Kd.N_reads' HO_10.out).2.1);rintro e w69 ⟨rfl,hb⟩;refine ⟨_,rfl,?_⟩;have n0_:=A_ (Kd.N_below (by (with_reducible repeat (first|apply na|apply nd_|apply ne_));exact HO_5.out) hb);have n1_:=A_ (Kd.N_below (by (with_reducible repeat (first|apply na|apply nd_|apply ne_));exact HO_6.out) hb);have n2_:=A_ (Kd.N_below (by (with_reducible repeat (first|apply na|apply nd_|apply ne_));exact HO_9.out) hb);have n3_:=A_ (Kd.N_below (by (with_reducible repeat (first|apply na|apply nd_|apply ne_));exact HO_10.out) hb);have n4_:=A_ (Kd.V_below (by (with_reducible repeat (first|apply Kd.V_alloc|apply Kd.V_drewN|apply Kd.V_drew));exact HL385_0.out) hb);have n5_:=A_ (Kd.V_below (by (with_reducible repeat (first|apply Kd.V_alloc|apply Kd.V_drewN|apply Kd.V_drew));exact HL386_0.out) hb);have n6_:=A_ (cl (by repeat (first|(with_reducible exact HR385_0.out)|(with_reducible refine ca ?_ _)|(with_reducible refine cb ?_ _)|(with_reducible refine cc ?_)|exact HR385_0.out)) hb);have n7_:=A_ (cl (by repeat (first|(with_reducible exact HR386_0.out)|(with_reducible refine ca ?_ _)|(with_reducible refine cb ?_ _)|(with_reducible refine cc ?_)|exact HR386_0.out)) hb);have n8_:=A_ (blk_below (g:=gb394) (o:=.cells #[.int .i64 t391,.int .i64 t392] 36 (0,0)) (by (with_reducible repeat (first|refine blk_drewN ?_ _|refine blk_drew ?_|refine blk_alloc ?_ _));exact BK394.out) hb);have n9_:=A_ (below_step (by repeat (first|(with_reducible first|exact HB.out|apply ba|apply bb|apply bc|refine below_set ?_ GE394.out)|exact HB.out)) hb);clear HO_5;clear HO_6;clear HO_9;clear HO_10;clear HL385_0;clear HL386_0;clear HR385_0;clear HR386_0;clear BK394;clear HB;have HO_5:=n0_;have HO_6:=n1_;have HO_9:=n2_;have HO_10:=n3_;have HL385_0:=n4_;have HL386_0:=n5_;have HR385_0:=n6_;have HR386_0:=n7_;have BK394:=n8_;have HB:=n9_;clear n0_ n1_ n2_ n3_ n4_ n5_ n6_ n7_ n8_ n9_;(try clear hb);(try clear hb2);(try clear hk);(try clear hi))|((with_reducible refine gate_dst (N:=25) rfl ?_);refine box_event ?hg (N:=25) ?hd (cs:=#[.int .i64 0,.int .i64 0]) (t:=36) ?hr ?_;(case hd=>rfl);(case hg=>rfl);(case hr=>first|(go_simp;done)|(go_simp;rfl));intro gb398 hg w70 hbox hb;have n0_:=A_ (Kd.N_below (Kd.N_elderB (by (with_reducible repeat (first|apply na|apply nd_|apply ne_));exact HO_5.out) gb398 (Nat.le_of_eq hg.symm)) hb);have n1_:=A_ (Kd.N_below (Kd.N_elderB (by (with_reducible repeat (first|apply na|apply nd_|apply ne_));exact HO_6.out) gb398 (Nat.le_of_eq hg.symm)) hb);have n2_:=A_ (Kd.N_below (Kd.N_elderB (by (with_reducible repeat (first|apply na|apply nd_|apply ne_));exact HO_9.out) gb398 (Nat.le_of_eq hg.symm)) hb);have n3_:=A_ (Kd.N_below (Kd.N_elderB (by (with_reducible repeat (first|apply na|apply nd_|apply ne_));exact HO_10.out) gb398 (Nat.le_of_eq hg.symm)) hb);have n4_:=A_ (Kd.V_below (Kd.V_elderB (by (with_reducible repeat (first|apply Kd.V_alloc|apply Kd.V_drewN|apply Kd.V_drew));exact HL385_0.out) gb398 (Nat.le_of_eq hg.symm)) hb);have n5_:=A_ (Kd.V_below (Kd.V_elderB (by (with_reducible repeat (first|apply Kd.V_alloc|apply Kd.V_drewN|apply Kd.V_drew));exact HL386_0.out) gb398 (Nat.le_of_eq hg.symm)) hb);have n6_:=A_ (cl (by repeat (first|(with_reducible exact HR385_0.out)|(with_reducible refine ca ?_ _)|(with_reducible refine cb ?_ _)|(with_reducible refine cc ?_)|exact HR385_0.out)) hb);have n7_:=A_ (cl (by repeat (first|(with_reducible exact HR386_0.out)|(with_reducible refine ca ?_ _)|(with_reducible refine cb ?_ _)|(with_reducible refine cc ?_)|exact HR386_0.out)) hb);have n8_:=A_ (blk_below (g:=gb394) (o:=.cells #[.int .i64 t391,.int .i64 t392] 36 (0,0)) (by (with_reducible repeat (first|refine blk_drewN ?_ _|refine blk_drew ?_|refine blk_alloc ?_ _));exact BK394.out) hb);have n9_:=A_ (below_step (by repeat (first|(with_reducible first|exact HB.out|apply ba|apply bb|apply bc|refine below_set ?_ GE394.out)|exact HB.out)) hb);have n10_:=A_ (hbox);have n11_:=A_ ((by rw [hg];exact (below_size (by repeat (first|(with_reducible first|exact HB.out|apply ba|apply bb|apply bc|refine below_set ?_ GE394.out)|exact HB.out))) : w.heap.size ≤ gb398));have n12_:=A_ ((by rw [hg];exact (below_size (by repeat (first|(with_reducible first|exact HB.out|apply ba|apply bb|apply bc|refine below_set ?_ GE394.out)|exact HB.out))) : w.heap.size ≤ gb398));have n13_:=A_ ((by rw [hg];exact Nat.ne_of_lt (blk_lt (g:=gb394) (o:=.cells #[.int .i64 t391,.int .i64 t392] 36 (0,0)) (by (with_reducible repeat (first|refine blk_drewN ?_ _|refine blk_drew ?_|refine blk_alloc ?_ _));exact BK394.out)) : gb394≠gb398));have n14_:=A_ ((by rw [hg];exact Nat.ne_of_gt (blk_lt (g:=gb394) (o:=.cells #[.int .i64 t391,.int .i64 t392] 36 (0,0)) (by (with_reducible repeat (first|refine blk_drewN ?_ _|refine blk_drew ?_|refine blk_alloc ?_ _));exact BK394.out)) : gb398≠gb394));have n15_:=A_ (CF.new (by repeat (first|(with_reducible exact HR385_0.out)|(with_reducible refine ca ?_ _)|(with_reducible refine cb ?_ _)|(with_reducible refine cc ?_)|exact HR385_0.out)) hg hb);have n16_:=A_ (CF.new (by repeat (first|(with_reducible exact HR386_0.out)|(with_reducible refine ca ?_ _)|(with_reducible refine cb ?_ _)|(with_reducible refine cc ?_)|exact HR386_0.out)) hg hb);clear HO_5;clear HO_6;clear HO_9;clear HO_10;clear HL385_0;clear HL386_0;clear HR385_0;clear HR386_0;clear BK394;clear HB;have HO_5:=n0_;have HO_6:=n1_;have HO_9:=n2_;have HO_10:=n3_;have HL385_0:=n4_;have HL386_0:=n5_;have HR385_0:=n6_;have HR386_0:=n7_;have BK394:=n8_;have HB:=n9_;have BK398:=n10_;have GW398:=n11_;have GE398:=n12_;have NB394_398:=n13_;have NB398_394:=n14_;have HZ385_0_398:=n15_;have HZ386_0_398:=n16_;clear n0_ n1_ n2_ n3_ n4_ n5_ n6_ n7_ n8_ n9_ n10_ n11_ n12_ n13_ n14_ n15_ n16_;clear hb hbox hg;have hnb71:=NB398_394.out;have hnc71:=NB394_398.out;have hcz72_0 : w70.cell? ⟨gb398,0,none⟩ = some (.int .i64 0):=(blk_cell BK398.out 0).trans rfl;have hcz72_1 : w70.cell? ⟨gb398,1,none⟩ = some (.int .i64 0):=(blk_cell BK398.out 1).trans rfl;have hfz72_0:=blk_frozen BK398.out 0;have hfz72_1:=blk_frozen BK398.out 1)|((with_reducible refine gate_store (t:=36) (p:=25) rfl ?_);refine store_event (t:=36) (p:=25) (v:=?vo_w73) (w1:=((w70.setCell ⟨gb398,0,none⟩ (.int .i64 t395)).setCell ⟨gb398,1,none⟩ (.int .i64 t396))) ?hg ?ho ?hn ?hr ?_;(case ho=>rfl);(case hg=>rfl);(case hn=>rfl);(case hr=>first|(go_simp;done)|(go_simp;rfl));intro w73 hw;have n0_ : Aside0 (Kd.N (Kd.slice 3 (Kd.int .i64)) 22 w73 w.heap.size (fun k_=>some k_≠(.slice (some ad386) t334.length co31 : Value).ownBlock∧nb k_ (.slice Ao43 y355.length co43)∧nb k_ (.slice Ao44 y374.length co44)∧k_≠gb394∧k_≠gb398) (.slice (some ad385) t331.length co26) t331):=⟨(by rw [hw];exact (by (with_reducible repeat (first|apply na|apply nd_|apply ne_));exact Kd.N_mono (Kd.N_far (p:=⟨gb398,1,none⟩) (Kd.N_far (p:=⟨gb398,0,none⟩) (Kd.N_mono HO_5.out (fun k_ hk=>(⟨hk,hk.2⟩ : _∧k_≠gb398))) (fun _ hk=>hk.2) (.int .i64 t395)) (fun _ hk=>hk.2) (.int .i64 t396)) (fun _ hk=>⟨hk.1.1.1,⟨hk.1.1.2.1,⟨hk.1.1.2.2.1,⟨hk.1.1.2.2.2,hk.1.2⟩⟩⟩⟩)))⟩;have n1_ : Aside0 (Kd.N (Kd.slice 3 (Kd.int .i64)) 22 w73 w.heap.size (fun k_=>some k_≠(.slice (some ad385) t331.length co26 : Value).ownBlock∧nb k_ (.slice Ao43 y355.length co43)∧nb k_ (.slice Ao44 y374.length co44)∧k_≠gb394∧k_≠gb398) (.slice (some ad386) t334.length co31) t334):=⟨(by rw [hw];exact (by (with_reducible repeat (first|apply na|apply nd_|apply ne_));exact Kd.N_mono (Kd.N_far (p:=⟨gb398,1,none⟩) (Kd.N_far (p:=⟨gb398,0,none⟩) (Kd.N_mono HO_6.out (fun k_ hk=>(⟨hk,hk.2⟩ : _∧k_≠gb398))) (fun _ hk=>hk.2) (.int .i64 t395)) (fun _ hk=>hk.2) (.int .i64 t396)) (fun _ hk=>⟨hk.1.1.1,⟨hk.1.1.2.1,⟨hk.1.1.2.2.1,⟨hk.1.1.2.2.2,hk.1.2⟩⟩⟩⟩)))⟩;have n2_ : Aside0 (Kd.N (Kd.slice 3 (Kd.int .i64)) 22 w73 w.heap.size (fun k_=>some k_≠(.slice (some ad386) t334.length co31 : Value).ownBlock∧nb k_ (.slice Ao44 y374.length co44)∧k_≠gb394∧k_≠gb398) (.slice Ao43 y355.length co43) y355):=⟨(by rw [hw];exact (by (with_reducible repeat (first|apply na|apply nd_|apply ne_));exact Kd.N_mono (Kd.N_far (p:=⟨gb398,1,none⟩) (Kd.N_far (p:=⟨gb398,0,none⟩) (Kd.N_mono HO_9.out (fun k_ hk=>(⟨hk,hk.2⟩ : _∧k_≠gb398))) (fun _ hk=>hk.2) (.int .i64 t395)) (fun _ hk=>hk.2) (.int .i64 t396)) (fun _ hk=>⟨hk.1.1.1,⟨hk.1.1.2.1,⟨hk.1.1.2.2,hk.1.2⟩⟩⟩)))⟩;have n3_ : Aside0 (Kd.N (Kd.slice 3 (Kd.int .i64)) 22 w73 w.heap.size (fun k_=>some k_≠(.slice (some ad385) t331.length co26 : Value).ownBlock∧nb k_ (.slice Ao43 y355.length co43)∧k_≠gb394∧k_≠gb398) (.slice Ao44 y374.length co44) y374):=⟨(by rw [hw];exact (by (with_reducible repeat (first|apply na|apply nd_|apply ne_));exact Kd.N_mono (Kd.N_far (p:=⟨gb398,1,none⟩) (Kd.N_far (p:=⟨gb398,0,none⟩) (Kd.N_mono HO_10.out (fun k_ hk=>(⟨hk,hk.2⟩ : _∧k_≠gb398))) (fun _ hk=>hk.2) (.int .i64 t395)) (fun _ hk=>hk.2) (.int .i64 t396)) (fun _ hk=>⟨hk.1.1.1,⟨hk.1.1.2.1,⟨hk.1.1.2.2,hk.1.2⟩⟩⟩)))⟩;have n4_ : Aside0 (Kd.V (Kd.int .i64) 3 w73 w.heap.size (fun k_=>some k_≠(.slice (some ad385) t331.length co26 : Value).ownBlock∧some k_≠(.slice (some ad386) t334.length co31 : Value).ownBlock∧nb k_ (.slice Ao43 y355.length co43)∧nb k_ (.slice Ao44 y374.length co44)∧k_≠gb394∧k_≠gb398) (.slice A385_0 (rd_L1 t331 0).length c385_0) (rd_L1 t331 0)):=⟨(by rw [hw];exact (by (with_reducible repeat (first|apply Kd.V_alloc|apply Kd.V_drewN|apply Kd.V_drew));exact Kd.V_mono (Kd.V_far (p:=⟨gb398,1,none⟩) (Kd.V_far (p:=⟨gb398,0,none⟩) (Kd.V_mono HL385_0.out (fun k_ hk=>(⟨hk,hk.2⟩ : _∧k_≠gb398))) (fun _ hk=>hk.2) (.int .i64 t395)) (fun _ hk=>hk.2) (.int .i64 t396)) (fun _ hk=>⟨hk.1.1.1,⟨hk.1.1.2.1,⟨hk.1.1.2.2.1,⟨hk.1.1.2.2.2.1,⟨hk.1.1.2.2.2.2,hk.1.2⟩⟩⟩⟩⟩)))⟩;have n5_ : Aside0 (Kd.V (Kd.int .i64) 3 w73 w.heap.size (fun k_=>some k_≠(.slice (some ad385) t331.length co26 : Value).ownBlock∧some k_≠(.slice (some ad386) t334.length co31 : Value).ownBlock∧nb k_ (.slice Ao43 y355.length co43)∧nb k_ (.slice Ao44 y374.length co44)∧k_≠gb394∧k_≠gb398) (.slice A386_0 (rd_L1 t334 0).length c386_0) (rd_L1 t334 0)):=⟨(by rw [hw];exact (by (with_reducible repeat (first|apply Kd.V_alloc|apply Kd.V_drewN|apply Kd.V_drew));exact Kd.V_mono (Kd.V_far (p:=⟨gb398,1,none⟩) (Kd.V_far (p:=⟨gb398,0,none⟩) (Kd.V_mono HL386_0.out (fun k_ hk=>(⟨hk,hk.2⟩ : _∧k_≠gb398))) (fun _ hk=>hk.2) (.int .i64 t395)) (fun _ hk=>hk.2) (.int .i64 t396)) (fun _ hk=>⟨hk.1.1.1,⟨hk.1.1.2.1,⟨hk.1.1.2.2.1,⟨hk.1.1.2.2.2.1,⟨hk.1.1.2.2.2.2,hk.1.2⟩⟩⟩⟩⟩)))⟩;have n6_ : Aside0 (w73.heap[gb394]? = some (.cells #[.int .i64 t391,.int .i64 t392] 36 (0,0))):=⟨(by rw [hw];exact (by (with_reducible repeat (first|refine blk_drewN ?_ _|refine blk_drew ?_|refine blk_alloc ?_ _));refine blk_far ?_ NB394_398.out _;(with_reducible repeat (first|refine blk_drewN ?_ _|refine blk_drew ?_|refine blk_alloc ?_ _));refine blk_far ?_ NB394_398.out _;(with_reducible repeat (first|refine blk_drewN ?_ _|refine blk_drew ?_|refine blk_alloc ?_ _));exact BK394.out))⟩;have n7_ : Aside0 (w73.heap[gb398]? = some (.cells #[.int .i64 t395,.int .i64 t396] 36 (0,0))):=⟨(by rw [hw];exact (by (with_reducible repeat (first|refine blk_drewN ?_ _|refine blk_drew ?_|refine blk_alloc ?_ _));refine blk_put (cs:=#[.int .i64 t395,.int .i64 0]) ?_ 1 _ rfl;(with_reducible repeat (first|refine blk_drewN ?_ _|refine blk_drew ?_|refine blk_alloc ?_ _));refine blk_put (cs:=#[.int .i64 0,.int .i64 0]) ?_ 0 _ rfl;(with_reducible repeat (first|refine blk_drewN ?_ _|refine blk_drew ?_|refine blk_alloc ?_ _));exact BK398.out))⟩;have n8_ : Aside0 (Below w.heap.size w w73):=⟨(by rw [hw];exact (by repeat (first|(with_reducible first|exact HB.out|apply ba|apply bb|apply bc|refine below_set ?_ GE394.out|refine below_set ?_ GE398.out)|exact HB.out)))⟩;have n9_ : Aside0 (Kd.C (Kd.int .i64) w73 A385_0 (rd_L1 t331 0).length (rd_L1 t331 0)):=⟨(by rw [hw];exact (CF.C (by repeat (first|exact HZ385_0_398.out|refine CF.set ?_ _ _|refine CF.drewN ?_ _|refine CF.drew ?_|refine CF.alloc ?_ _))))⟩;have n10_ : Aside0 (Kd.C (Kd.int .i64) w73 A386_0 (rd_L1 t334 0).length (rd_L1 t334 0)):=⟨(by rw [hw];exact (CF.C (by repeat (first|exact HZ386_0_398.out|refine CF.set ?_ _ _|refine CF.drewN ?_ _|refine CF.drew ?_|refine CF.alloc ?_ _))))⟩;clear hw;clear HO_5;clear HO_6;clear HO_9;clear HO_10;clear HL385_0;clear HL386_0;clear BK394;clear BK398;clear HB;clear HR385_0;clear HR386_0;have HO_5:=n0_;have HO_6:=n1_;have HO_9:=n2_;have HO_10:=n3_;have HL385_0:=n4_;have HL386_0:=n5_;have BK394:=n6_;have BK398:=n7_;have HB:=n8_;have HR385_0:=n9_;have HR386_0:=n10_;clear n0_ n1_ n2_ n3_ n4_ n5_ n6_ n7_ n8_ n9_ n10_))
               (try simp only [Act.put,List.setIfInBounds_toArray,List.set_cons_zero,List.set_cons_succ])
               have H:=HC61.out
               clear HC61
               by_cases c74 : t388 = 0
               ·
                rw [if_pos c74] at H
                have c74b0 : (t388 == 0) = true:=beq_iff_eq.mpr c74
                have c74b1 : (t388 != 0) = false:=bne_eq_false_iff_eq.mpr c74
                clear c74
                (first|rw [c74b0]|(simp only [i64_w,i32_w];rw [c74b0])|skip)
                by_cases c75 : t390 = 0
                ·
                 rw [if_pos c75] at H
                 have c75b0 : (t390 == 0) = true:=beq_iff_eq.mpr c75
                 have c75b1 : (t390 != 0) = false:=bne_eq_false_iff_eq.mpr c75
                 clear c75
                 by_cases c76 : t387 = t389
                 ·
                  rw [if_pos c76] at H
                  have c76b0 : (t387 == t389) = true:=beq_iff_eq.mpr c76
                  have c76b1 : (t387 != t389) = false:=bne_eq_false_iff_eq.mpr c76
                  clear c76
                  by_cases c77 : t393 = 0
                  ·
                   rw [if_pos c77] at H
                   have c77b0 : (t393 == 0) = true:=beq_iff_eq.mpr c77
                   have c77b1 : (t393 != 0) = false:=bne_eq_false_iff_eq.mpr c77
                   clear c77
                   by_cases c78 : t397 = 0
                   ·
                    rw [if_pos c78] at H
                    have c78b0 : (t397 == 0) = true:=beq_iff_eq.mpr c78
                    have c78b1 : (t397 != 0) = false:=bne_eq_false_iff_eq.mpr c78
                    clear c78
                    by_cases c79 : (t391 == t395 && (t392 == t396)) = true
                    ·
                     rw [if_pos c79] at H
                     have c79b0 : (t391 == t395 && (t392 == t396)) = true:=c79
                     (try (have c79b1 : decide (t391 = t395 && (t392 == t396)) = true:=by simpa using c79))
                     (try (have c79b2 : (t391 == t395 && (t392 == t396)) = true:=by simpa using c79))
                     clear c79
                     replace H:=Option.bind_eq_some_iff.mp H
                     obtain ⟨t399,A800,H⟩:=H
                     replace H : (some t399) = some r:=H
                     have A80:=A_ A800
                     clear A800
                     obtain rfl:=Option.some.inj H
                     have hnb81:=NB394_398.out
                     have hnc81:=NB398_394.out
                     have hcz82_0 : w73.cell? ⟨gb394,0,none⟩ = some (.int .i64 t391):=(blk_cell BK394.out 0).trans rfl
                     have hcz82_1 : w73.cell? ⟨gb394,1,none⟩ = some (.int .i64 t392):=(blk_cell BK394.out 1).trans rfl
                     have hfz82_0:=blk_frozen BK394.out 0
                     have hfz82_1:=blk_frozen BK394.out 1
                     have hcz83_0 : w73.cell? ⟨gb398,0,none⟩ = some (.int .i64 t395):=(blk_cell BK398.out 0).trans rfl
                     have hcz83_1 : w73.cell? ⟨gb398,1,none⟩ = some (.int .i64 t396):=(blk_cell BK398.out 1).trans rfl
                     have hfz83_0:=blk_frozen BK398.out 0
                     have hfz83_1:=blk_frozen BK398.out 1
                     go_wp2_with (first|(go_at_call 15;(with_reducible refine (shapesearchlaw16_awake.calls kj22  t399 _ A80.out).mono ?_);rintro e w84 ⟨rfl,hb⟩;have n0_:=A_ (Kd.N_below (by (with_reducible repeat (first|apply na|apply nd_|apply ne_));exact HO_5.out) hb);have n1_:=A_ (Kd.N_below (by (with_reducible repeat (first|apply na|apply nd_|apply ne_));exact HO_6.out) hb);have n2_:=A_ (Kd.N_below (by (with_reducible repeat (first|apply na|apply nd_|apply ne_));exact HO_9.out) hb);have n3_:=A_ (Kd.N_below (by (with_reducible repeat (first|apply na|apply nd_|apply ne_));exact HO_10.out) hb);have n4_:=A_ (Kd.V_below (by (with_reducible repeat (first|apply Kd.V_alloc|apply Kd.V_drewN|apply Kd.V_drew));exact HL385_0.out) hb);have n5_:=A_ (Kd.V_below (by (with_reducible repeat (first|apply Kd.V_alloc|apply Kd.V_drewN|apply Kd.V_drew));exact HL386_0.out) hb);have n6_:=A_ (cl (by repeat (first|(with_reducible exact HR385_0.out)|(with_reducible refine ca ?_ _)|(with_reducible refine cb ?_ _)|(with_reducible refine cc ?_)|exact HR385_0.out)) hb);have n7_:=A_ (cl (by repeat (first|(with_reducible exact HR386_0.out)|(with_reducible refine ca ?_ _)|(with_reducible refine cb ?_ _)|(with_reducible refine cc ?_)|exact HR386_0.out)) hb);have n8_:=A_ (blk_below (g:=gb394) (o:=.cells #[.int .i64 t391,.int .i64 t392] 36 (0,0)) (by (with_reducible repeat (first|refine blk_drewN ?_ _|refine blk_drew ?_|refine blk_alloc ?_ _));exact BK394.out) hb);have n9_:=A_ (blk_below (g:=gb398) (o:=.cells #[.int .i64 t395,.int .i64 t396] 36 (0,0)) (by (with_reducible repeat (first|refine blk_drewN ?_ _|refine blk_drew ?_|refine blk_alloc ?_ _));exact BK398.out) hb);have n10_:=A_ (below_step (by repeat (first|(with_reducible first|exact HB.out|apply ba|apply bb|apply bc|refine below_set ?_ GE394.out|refine below_set ?_ GE398.out)|exact HB.out)) hb);clear HO_5;clear HO_6;clear HO_9;clear HO_10;clear HL385_0;clear HL386_0;clear HR385_0;clear HR386_0;clear BK394;clear BK398;clear HB;have HO_5:=n0_;have HO_6:=n1_;have HO_9:=n2_;have HO_10:=n3_;have HL385_0:=n4_;have HL386_0:=n5_;have HR385_0:=n6_;have HR386_0:=n7_;have BK394:=n8_;have BK398:=n9_;have HB:=n10_;clear n0_ n1_ n2_ n3_ n4_ n5_ n6_ n7_ n8_ n9_ n10_;(try clear hb);(try clear hb2);(try clear hk);(try clear hi)))
                     go_ret
                     exact ⟨by first|rfl|(simp [errW_none,errW_some] <;> rfl)|(simp only [← hji6];first|rfl|(simp [errW_none,errW_some] <;> rfl))|(simp [*,errW_none,errW_some] <;> rfl),by repeat (first|(with_reducible first|exact HB.out|apply ba|apply bb|apply bc|refine below_set ?_ GE394.out|refine below_set ?_ GE398.out)|exact HB.out)⟩
                    ·
                     rw [if_neg c79] at H
                     have c79b0 : (t391 == t395 && (t392 == t396)) = false:=by simpa using c79
                     (try (have c79b1 : decide (t391 = t395 && (t392 == t396)) = false:=by simpa using c79))
                     (try (have c79b2 : (t391 == t395 && (t392 == t396)) = false:=by simpa using c79))
                     (try (have c79b3 : ¬ (t391 = t395 && (t392 == t396)):=by simpa using c79))
                     clear c79
                     exact absurd ((Option.some.inj H).trans HTR_.out) (by decide)
                   ·
                    rw [if_neg c78] at H
                    have c78b0 : (t397 == 0) = false:=beq_eq_false_iff_ne.mpr c78
                    have c78b1 : (t397 != 0) = true:=bne_iff_ne.mpr c78
                    exact absurd ((Option.some.inj H).trans HTR_.out) (by decide)
                  ·
                   rw [if_neg c77] at H
                   have c77b0 : (t393 == 0) = false:=beq_eq_false_iff_ne.mpr c77
                   have c77b1 : (t393 != 0) = true:=bne_iff_ne.mpr c77
                   exact absurd ((Option.some.inj H).trans HTR_.out) (by decide)
                 ·
                  rw [if_neg c76] at H
                  have c76b0 : (t387 == t389) = false:=beq_eq_false_iff_ne.mpr c76
                  have c76b1 : (t387 != t389) = true:=bne_iff_ne.mpr c76
                  exact absurd ((Option.some.inj H).trans HTR_.out) (by decide)
                ·
                 rw [if_neg c75] at H
                 have c75b0 : (t390 == 0) = false:=beq_eq_false_iff_ne.mpr c75
                 have c75b1 : (t390 != 0) = true:=bne_iff_ne.mpr c75
                 exact absurd ((Option.some.inj H).trans HTR_.out) (by decide)
               ·
                rw [if_neg c74] at H
                have c74b0 : (t388 == 0) = false:=beq_eq_false_iff_ne.mpr c74
                have c74b1 : (t388 != 0) = true:=bne_iff_ne.mpr c74
                (first|rw [c74b0]|(simp only [i64_w,i32_w];rw [c74b0])|skip)
                exact absurd ((Option.some.inj H).trans HTR_.out) (by decide)
              ·
               rw [if_neg c56] at H
               have c56b0 : (((rd_L1 t331 0).length : Int) == ((rd_L1 t334 0).length : Int)) = false:=beq_eq_false_iff_ne.mpr c56
               have c56b1 : (((rd_L1 t331 0).length : Int) != ((rd_L1 t334 0).length : Int)) = true:=bne_iff_ne.mpr c56
               have c56b2 : ((rd_L1 t331 0).length == (rd_L1 t334 0).length) = false:=by first|simpa using c56|(simp at c56 ⊢;omega)
               replace H:=Option.bind_eq_some_iff.mp H
               obtain ⟨t400,A850,H⟩:=H
               replace H : (some t400) = some r:=H
               have A85:=A_ A850
               clear A850
               obtain rfl:=Option.some.inj H
               try go_wp2
               have n0_:=A_ (Kd.N_drew HO_5.out)
               have n1_:=A_ (Kd.N_drew HO_6.out)
               have n2_:=A_ (Kd.N_drew HO_9.out)
               have n3_:=A_ (Kd.N_drew HO_10.out)
               have n4_:=A_ (below_drew1 HB.out)
               clear HO_5
               clear HO_6
               clear HO_9
               clear HO_10
               clear HB
               have HO_5:=n0_
               have HO_6:=n1_
               have HO_9:=n2_
               have HO_10:=n3_
               have HB:=n4_
               clear n0_ n1_ n2_ n3_ n4_
               have p385 : 0 ≤ (0 : Int):=(by omega)
               have q385 : 0 < (t331.length : Int):=of_decide_eq_true (by first|(with_reducible assumption)|assumption)
               obtain ⟨ad385,A385_0,c385_0,e385,hx385_0,hl385_0,hi385_0⟩:=at_L1 (Kd.N_reads' HO_5.out).2.2 0 p385 q385
               cases e385
               obtain ⟨ce385,hce385,hMe385,hcc385⟩:=Kd.N_get HO_5.out [] 0 p385 (by first|exact q385|exact of_decide_eq_true (by first|(with_reducible assumption)|assumption)|(have e_:=(Kd.N_reads' HO_5.out).1;omega))
               obtain ⟨ua385_0,uc385_0,rfl,ul385_0,ge385_0⟩:=Kd.FK_slice_open hMe385
               have hv385_0:=hcc385 0 _ rfl
               rw [Nat.add_zero,show ((Kd.slice 3 (Kd.int .i64))).sz = 1 from rfl,Nat.mul_one] at hv385_0
               replace hv385_0:=Option.some.inj (hv385_0.symm.trans hx385_0)
               injection hv385_0 with hva_ hvn_ hvc_
               rw [hva_] at ge385_0
               rw [hvc_] at ul385_0
               have HL385_0:=A_ (show Kd.V (Kd.int .i64) 3 _ w.heap.size _ _ (rd_L1 t331 0) from Kd.V_mk ul385_0 ge385_0)
               clear hva_ hvn_ hvc_ ge385_0 ul385_0
               clear hcc385 hce385
               have qi385 : (0 < t331.length) = True:=eq_true (by omega)
               (try rw [show ((0 : Int)).toNat = 0 from rfl] at hx385_0)
               (try rw [Addr.add_zero'] at hx385_0)
               have HR385_0:=A_ hi385_0
               have HC385_0:=A_ hl385_0
               clear hi385_0 hl385_0
               replace p385:=eq_true p385
               replace q385:=eq_true q385
               have p386 : 0 ≤ (0 : Int):=(by omega)
               have q386 : 0 < (t334.length : Int):=of_decide_eq_true (by first|(with_reducible assumption)|assumption)
               obtain ⟨ad386,A386_0,c386_0,e386,hx386_0,hl386_0,hi386_0⟩:=at_L1 (Kd.N_reads' HO_6.out).2.2 0 p386 q386
               cases e386
               obtain ⟨ce386,hce386,hMe386,hcc386⟩:=Kd.N_get HO_6.out [] 0 p386 (by first|exact q386|exact of_decide_eq_true (by first|(with_reducible assumption)|assumption)|(have e_:=(Kd.N_reads' HO_6.out).1;omega))
               obtain ⟨ua386_0,uc386_0,rfl,ul386_0,ge386_0⟩:=Kd.FK_slice_open hMe386
               have hv386_0:=hcc386 0 _ rfl
               rw [Nat.add_zero,show ((Kd.slice 3 (Kd.int .i64))).sz = 1 from rfl,Nat.mul_one] at hv386_0
               replace hv386_0:=Option.some.inj (hv386_0.symm.trans hx386_0)
               injection hv386_0 with hva_ hvn_ hvc_
               rw [hva_] at ge386_0
               rw [hvc_] at ul386_0
               have HL386_0:=A_ (show Kd.V (Kd.int .i64) 3 _ w.heap.size _ _ (rd_L1 t334 0) from Kd.V_mk ul386_0 ge386_0)
               clear hva_ hvn_ hvc_ ge386_0 ul386_0
               clear hcc386 hce386
               have qi386 : (0 < t334.length) = True:=eq_true (by omega)
               (try rw [show ((0 : Int)).toNat = 0 from rfl] at hx386_0)
               (try rw [Addr.add_zero'] at hx386_0)
               have HR386_0:=A_ hi386_0
               have HC386_0:=A_ hl386_0
               clear hi386_0 hl386_0
               replace p386:=eq_true p386
               replace q386:=eq_true q386
               refine start_ (n:=9) (S:=fun w'=>w'.cell? ad385 = some (.slice A385_0 (rd_L1 t331 0).length c385_0)∧w'.cell? ad386 = some (.slice A386_0 (rd_L1 t334 0).length c386_0)) (ds:=[]) #[false,false,false,false,false,false,false,false,false] (by kernel_rfl) rfl rfl ⟨hx385_0,hx386_0⟩ (fun hHeld=>?_);refine with_tabW shapesearchlaw16_ChannelsOrder.tab10 shapesearchlaw16_ChannelsOrder.bits10 (fun HT_ HW_=>?_)
               generalize wc.drew = w86 at HO_5 HO_6 HO_9 HO_10 HB HL385_0 HL386_0 HR385_0 HR386_0 hx385_0 hx386_0 hHeld ⊢
               refine pure_ (i:=0) (N:=some 109) (v:=?_) (a':=?_) #[true,false,false,false,false,false,false,false,false] rfl rfl (any_of HT_.out (by kernel_rfl)) (fun _ _ _ h=>h) (Or.inl ⟨by rfl,?_⟩) ?_ ?_
               rotate_left
               ·
                intro w'
                go_simp
                with_reducible rfl
               rotate_left
               ·
                simp only [Act.put,sa,sb,sc,i64_w,i32_w]
                rfl
               refine pure_ (i:=1) (N:=some 110) (v:=?_) (a':=?_) #[true,true,false,false,false,false,false,false,false] rfl rfl (any_of HT_.out (by kernel_rfl)) (fun _ _ _ h=>h) (Or.inl ⟨by rfl,?_⟩) ?_ ?_
               rotate_left
               ·
                intro w'
                go_simp
                with_reducible rfl
               rotate_left
               ·
                simp only [Act.put,sa,sb,sc,i64_w,i32_w]
                rfl
               refine pure_ (i:=4) (N:=some 113) (v:=?_) (a':=?_) #[true,true,false,false,true,false,false,false,false] rfl rfl (any_of HT_.out (by kernel_rfl)) (fun _ _ _ h=>h) (Or.inl ⟨by rfl,?_⟩) ?_ ?_
               rotate_left
               ·
                intro w'
                go_simp
                with_reducible rfl
               rotate_left
               ·
                simp only [Act.put,sa,sb,sc,i64_w,i32_w]
                rfl
               refine pure_ (i:=5) (N:=some 114) (v:=?_) (a':=?_) #[true,true,false,false,true,true,false,false,false] rfl rfl (any_of HT_.out (by kernel_rfl)) (fun _ _ _ h=>h) (Or.inl ⟨by rfl,?_⟩) ?_ ?_
               rotate_left
               ·
                intro w'
                go_simp
                with_reducible rfl
               rotate_left
               ·
                simp only [Act.put,sa,sb,sc,i64_w,i32_w]
                rfl
               refine take_ (i:=2) (N:=some 111) (v:=?_) (a':=?_) #[true,true,true,false,true,true,false,false,false] rfl rfl (take_ofW HT_.out HW_.out (by kernel_rfl)) (fun _ _ _ h=>h) (Or.inl ⟨by rfl,?_⟩) hHeld ?_ ?_
               rotate_left
               ·
                rintro w' ⟨s0,s1⟩
                go_simp
                with_reducible rfl
               rotate_left
               ·
                simp only [Act.put,sa,sb,sc,i64_w,i32_w]
                rfl
               refine pure_ (i:=3) (N:=some 112) (v:=?_) (a':=?_) #[true,true,true,true,true,true,false,false,false] rfl rfl (any_of HT_.out (by kernel_rfl)) (fun _ _ _ h=>h) (Or.inl ⟨by rfl,?_⟩) ?_ ?_
               rotate_left
               ·
                intro w'
                go_simp
                with_reducible rfl
               rotate_left
               ·
                simp only [Act.put,sa,sb,sc,i64_w,i32_w]
                rfl
               refine take_ (i:=6) (N:=some 115) (v:=?_) (a':=?_) #[true,true,true,true,true,true,true,false,false] rfl rfl (take_ofW HT_.out HW_.out (by kernel_rfl)) (fun _ _ _ h=>h) (Or.inl ⟨by rfl,?_⟩) hHeld ?_ ?_
               rotate_left
               ·
                rintro w' ⟨s0,s1⟩
                go_simp
                with_reducible rfl
               rotate_left
               ·
                simp only [Act.put,sa,sb,sc,i64_w,i32_w]
                rfl
               refine pure_ (i:=7) (N:=some 116) (v:=?_) (a':=?_) #[true,true,true,true,true,true,true,true,false] rfl rfl (any_of HT_.out (by kernel_rfl)) (fun _ _ _ h=>h) (Or.inl ⟨by rfl,?_⟩) ?_ ?_
               rotate_left
               ·
                intro w'
                go_simp
                with_reducible rfl
               rotate_left
               ·
                simp only [Act.put,sa,sb,sc,i64_w,i32_w]
                rfl
               refine pure_ (i:=8) (N:=some 117) (v:=?_) (a':=?_) #[true,true,true,true,true,true,true,true,true] rfl rfl (any_of HT_.out (by kernel_rfl)) (fun _ _ _ h=>h) (Or.inl ⟨by rfl,?_⟩) ?_ ?_
               rotate_left
               ·
                intro w'
                go_simp
                with_reducible rfl
               rotate_left
               ·
                simp only [Act.put,sa,sb,sc,i64_w,i32_w]
                rfl
               refine done_ (done_of HT_.out (by kernel_rfl)) ?_
               try go_wp2_with (first|((with_reducible refine gate_callee (f:=15) rfl ?_);refine goesL_ (some 169) rfl rfl Try.func15 (by kernel_rfl) rfl #[] rfl (by (try simp only [List.map_toArray,List.map_cons,List.map_nil]);first|done|rfl|(simp only [List.length_drop,List.length_take];rfl)|((try rw [KY28.out]);(try rw [KY29.out]);(try rw [KY30.out]);(try rw [KY32.out]);rfl)) ?_;(with_reducible refine (shapesearchlaw16_awake.calls kj22  t400 _ A85.out).mono ?_);rintro e w87 ⟨rfl,hb⟩;refine ⟨_,rfl,?_⟩;have n0_:=A_ (Kd.N_below (by (with_reducible repeat (first|apply na|apply nd_|apply ne_));exact HO_5.out) hb);have n1_:=A_ (Kd.N_below (by (with_reducible repeat (first|apply na|apply nd_|apply ne_));exact HO_6.out) hb);have n2_:=A_ (Kd.N_below (by (with_reducible repeat (first|apply na|apply nd_|apply ne_));exact HO_9.out) hb);have n3_:=A_ (Kd.N_below (by (with_reducible repeat (first|apply na|apply nd_|apply ne_));exact HO_10.out) hb);have n4_:=A_ (Kd.V_below (by (with_reducible repeat (first|apply Kd.V_alloc|apply Kd.V_drewN|apply Kd.V_drew));exact HL385_0.out) hb);have n5_:=A_ (Kd.V_below (by (with_reducible repeat (first|apply Kd.V_alloc|apply Kd.V_drewN|apply Kd.V_drew));exact HL386_0.out) hb);have n6_:=A_ (cl (by repeat (first|(with_reducible exact HR385_0.out)|(with_reducible refine ca ?_ _)|(with_reducible refine cb ?_ _)|(with_reducible refine cc ?_)|exact HR385_0.out)) hb);have n7_:=A_ (cl (by repeat (first|(with_reducible exact HR386_0.out)|(with_reducible refine ca ?_ _)|(with_reducible refine cb ?_ _)|(with_reducible refine cc ?_)|exact HR386_0.out)) hb);have n8_:=A_ (below_step (by repeat (first|(with_reducible first|exact HB.out|apply ba|apply bb|apply bc)|exact HB.out)) hb);clear HO_5;clear HO_6;clear HO_9;clear HO_10;clear HL385_0;clear HL386_0;clear HR385_0;clear HR386_0;clear HB;have HO_5:=n0_;have HO_6:=n1_;have HO_9:=n2_;have HO_10:=n3_;have HL385_0:=n4_;have HL386_0:=n5_;have HR385_0:=n6_;have HR386_0:=n7_;have HB:=n8_;clear n0_ n1_ n2_ n3_ n4_ n5_ n6_ n7_ n8_;(try clear hb);(try clear hb2);(try clear hk);(try clear hi)))
               go_ret
               exact ⟨by first|rfl|(simp [errW_none,errW_some] <;> rfl)|(simp only [← hji6];first|rfl|(simp [errW_none,errW_some] <;> rfl))|(simp [*,errW_none,errW_some] <;> rfl),by repeat (first|(with_reducible first|exact HB.out|apply ba|apply bb|apply bc)|exact HB.out)⟩
             ·
              rw [if_neg c55] at H
              exact absurd H (by simp)
            ·
             rw [if_neg c54] at H
             exact absurd H (by simp)
        ·
         rw [if_neg c18] at H
         exact absurd H (by simp)
       ·
        rw [if_neg c15] at H
        exact absurd H (by simp)
      ·
       rw [if_neg c14] at H
       exact absurd H (by simp)
     ·
      rw [if_neg c12] at H
      exact absurd H (by simp)
    ·
     rw [if_neg c9] at H
     exact absurd H (by simp)
   ·
    rw [if_neg c8] at H
    exact absurd H (by simp)
  ·
   rw [if_neg c7] at H
   exact absurd H (by simp)

/-- THE ONE PURE STATEMENT of shapesearchlaw16_ChannelsOrder: yours. -/
def shapesearchlaw16_ChannelsOrder.Pure : Prop:=∀ (l0 : List Int) (a1 : Int),l0.length ≤ maxLen → l0.length * 8 ≤ 140737488351232 → (∀ x ∈ l0,(Lit.int .i64 x).wf = true) → (Lit.int .u8 a1).wf = true → ∃ k,shapesearchlaw16_ChannelsOrder.f k l0 a1 = some true
theorem shapesearchlaw16_ChannelsOrder.walk (P : shapesearchlaw16_ChannelsOrder.Pure) (a0 : Option Addr) (len0 cap0 : Nat) (z0 : List Int) (a1 : Int) (w : World) (w0 : (a0 = none∧len0 = 0∧cap0 = 0∧z0 = []) ∨ ∃ x,a0 = some x∧len0 ≤ cap0∧cap0 ≤ maxLen∧z0.length = cap0∧(∀ i,i < z0.length → w.cell? (x.add i) = some (.int .i64 (z0.getD i 0)))∧∀ n ∈ z0,(Lit.int .i64 n).wf = true) (y0 : len0 * 8 ≤ 140737488351232) (w1 : (Lit.int .u8 a1).wf = true) :
  Calls Try.prog 8 #[.slice a0 len0 cap0,.int .u8 a1] w fun e w'=>e = .returned (.bool true)∧Below w.heap.size w w':=by
 obtain ⟨l0,rfl,hr0,hm0,hw0,hc0⟩:=ReadsInt.ofRowC w0
 obtain ⟨k,h⟩:=P l0 a1 hm0 y0 hw0 w1
 refine (shapesearchlaw16_ChannelsOrder.calls k _ _ l0 a1 true w (Kd.C_of_reads (d:=(0 : Int)) (h1:=fun _=>rfl) hr0) hc0 h rfl).mono ?_
 rintro e w' ⟨rfl,hd⟩
 exact ⟨rfl,hd⟩

end Go.Proofs.Ytodipcfbgnljeaa.PChannelsOrder
