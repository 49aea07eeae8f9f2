/- This file proves, function by function, what the Go functions that one law uses compute; most of it was printed by a program (wip/tools of this session, over the kit's print). -/
import Derived.Test.YtodipcfbgnljeaaPChannelsMorex0
import Derived.Test.YtodipcfbgnljeaaPChannelsMorex1
import Derived.Test.YtodipcfbgnljeaaPChannelsMorex3
import Derived.Test.YtodipcfbgnljeaaPChannelsMorex4
import Derived.Test.YtodipcfbgnljeaaPChannelsMorex6
import Derived.Test.YtodipcfbgnljeaaPChannelsMorex7
namespace Go.Proofs.Ytodipcfbgnljeaa.PChannelsMore
open Go.RowKit Go.Proofs.YtodipcfbgnljeaaW.PrintWords Go.Proofs.YtodipcfbgnljeaaW.PrintLast Go.Proofs.YtodipcfbgnljeaaW.PrintMore
attribute [local go_sem] max2_int min2_int max_two min_two max_three min_three max_four min_four   -- for this text's walks alone
set_option linter.unusedVariables false
set_option linter.unusedSimpArgs false

/-! ### shapesearchlaw16_ChannelsMore: function 5 -/
def shapesearchlaw16_ChannelsMore.j0 : Nat → List (List Int) → List (List Int) → Int → Bool → Option (Bool)
 | 0,_,_,_,_=>none
 | k + 1,x3,x4,x6,x89=>if x89 = true then (some false) else (if 0 < (x3.length : Int) then (if 0 < (x4.length : Int) then (if ((rd_L1 x3 0).length : Int) = ((rd_L1 x4 0).length : Int) then (if 0 ≤ x6 then (if x6 ≤ (x3.length : Int) then (if x6 ≤ (x4.length : Int) then ((channels_Greatest.f k (x3.take (x6 : Int).toNat) (x4.take (x6 : Int).toNat)).bind fun bt375=>((channels_Greatest.f k x3 x4).bind fun bt379=>(if bt375.2.2 = 0 then (if bt379.2.2 = 0 then ((shapesearchref01_Cmp.f k bt375.1 bt375.2.1 bt379.1 bt379.2.1).bind fun t383=>(if t383 ≤ 0 then ((shapesearchlaw16_awake.f k).bind fun t384=>(some t384)) else (some false))) else (some false)) else (some false)))) else (none)) else (none)) else (none)) else ((shapesearchlaw16_awake.f k).bind fun t385=>(some t385))) else (none)) else (none))
def shapesearchlaw16_ChannelsMore.f (k : Nat) (l0 : List Int) : Option (Bool):=(shapesearchkeep_New.f l0).bind fun bt330=>((shapesearchlaw16_bundles.f k bt330.1 bt330.2).bind fun bt333=>(if 0 ≤ (mx 1 (wrap64 ((bt333.1.length : Int) - 1))) then (if (mx 1 (wrap64 ((bt333.1.length : Int) - 1))) ≤ (bt333.1.length : Int) then (if (mx 1 (wrap64 ((bt333.1.length : Int) - 1))) ≤ (bt333.2.1.length : Int) then ((channels_Apart.f k (bt333.1.take ((mx 1 (wrap64 ((bt333.1.length : Int) - 1))) : Int).toNat) (bt333.2.1.take ((mx 1 (wrap64 ((bt333.1.length : Int) - 1))) : Int).toNat) bt333.2.2.1).bind fun bt349=>((channels_Apart.f k bt333.1 bt333.2.1 bt333.2.2.1).bind fun bt351=>((channels_Together.f k (bt333.1.take ((mx 1 (wrap64 ((bt333.1.length : Int) - 1))) : Int).toNat) (bt333.2.1.take ((mx 1 (wrap64 ((bt333.1.length : Int) - 1))) : Int).toNat) bt333.2.2.1).bind fun bt361=>((channels_Together.f k bt333.1 bt333.2.1 bt333.2.2.1).bind fun bt363=>(if bt349.2 = 0 then (if bt351.2 = 0 then (if bt361.2 = 0 then (if bt363.2 = 0 then (if bt349.1 > bt351.1 then (shapesearchlaw16_ChannelsMore.j0 k bt333.1 bt333.2.1 (mx 1 (wrap64 ((bt333.1.length : Int) - 1))) true) else (shapesearchlaw16_ChannelsMore.j0 k bt333.1 bt333.2.1 (mx 1 (wrap64 ((bt333.1.length : Int) - 1))) (decide (bt361.1 > bt363.1)))) else (shapesearchlaw16_ChannelsMore.j0 k bt333.1 bt333.2.1 (mx 1 (wrap64 ((bt333.1.length : Int) - 1))) true)) else (shapesearchlaw16_ChannelsMore.j0 k bt333.1 bt333.2.1 (mx 1 (wrap64 ((bt333.1.length : Int) - 1))) true)) else (shapesearchlaw16_ChannelsMore.j0 k bt333.1 bt333.2.1 (mx 1 (wrap64 ((bt333.1.length : Int) - 1))) true)) else (shapesearchlaw16_ChannelsMore.j0 k bt333.1 bt333.2.1 (mx 1 (wrap64 ((bt333.1.length : Int) - 1))) true)))))) else (none)) else (none)) else (none)))
theorem shapesearchlaw16_ChannelsMore.mono_l : ∀ k,(∀ y0 y1 y2 y3,LeO (shapesearchlaw16_ChannelsMore.j0 k y0 y1 y2 y3) (shapesearchlaw16_ChannelsMore.j0 (k + 1) y0 y1 y2 y3))
 | 0=>fun _ _ _ _ r h=>by simp [shapesearchlaw16_ChannelsMore.j0] at h
 | k + 1=>by
  have ih0:=shapesearchlaw16_ChannelsMore.mono_l k
  ·
   intro y0 y1 y2 y3
   unfold shapesearchlaw16_ChannelsMore.j0
   repeat' first
   | (with_reducible exact ih0 _ _ _ _)
   | (with_reducible exact channels_Apart.mono _ _ _ _)
   | (with_reducible exact channels_Greatest.mono _ _ _)
   | (with_reducible exact channels_Together.mono _ _ _ _)
   | (with_reducible exact shapesearchlaw16_awake.mono _)
   | (with_reducible exact shapesearchlaw16_bundles.mono _ _ _)
   | (with_reducible exact shapesearchref01_Cmp.mono _ _ _ _ _)
   | (with_reducible exact LeO.refl _)
   | (with_reducible exact LeO.none _)
   | (with_reducible refine LeO.ite ?_ ?_)
   | (with_reducible refine LeO.bind ?_ (fun _=>?_))
   | exact ih0 _ _ _ _
   | exact channels_Apart.mono _ _ _ _
   | exact channels_Greatest.mono _ _ _
   | exact channels_Together.mono _ _ _ _
   | exact shapesearchlaw16_awake.mono _
   | exact shapesearchlaw16_bundles.mono _ _ _
   | exact shapesearchref01_Cmp.mono _ _ _ _ _
   | exact LeO.none _
   | refine LeO.ite ?_ ?_
   | refine LeO.bind ?_ (fun _=>?_)
theorem shapesearchlaw16_ChannelsMore.mono : ∀ a0 k,LeO (shapesearchlaw16_ChannelsMore.f k a0) (shapesearchlaw16_ChannelsMore.f (k + 1) a0):=by
 intro a0 k
 have ih0:=shapesearchlaw16_ChannelsMore.mono_l k
 unfold shapesearchlaw16_ChannelsMore.f
 repeat' first
  | (with_reducible exact ih0 _ _ _ _)
  | (with_reducible exact channels_Apart.mono _ _ _ _)
  | (with_reducible exact channels_Greatest.mono _ _ _)
  | (with_reducible exact channels_Together.mono _ _ _ _)
  | (with_reducible exact shapesearchlaw16_awake.mono _)
  | (with_reducible exact shapesearchlaw16_bundles.mono _ _ _)
  | (with_reducible exact shapesearchref01_Cmp.mono _ _ _ _ _)
  | (with_reducible exact LeO.refl _)
  | (with_reducible exact LeO.none _)
  | (with_reducible refine LeO.ite ?_ ?_)
  | (with_reducible refine LeO.bind ?_ (fun _=>?_))
  | exact ih0 _ _ _ _
  | exact channels_Apart.mono _ _ _ _
  | exact channels_Greatest.mono _ _ _
  | exact channels_Together.mono _ _ _ _
  | exact shapesearchlaw16_awake.mono _
  | exact shapesearchlaw16_bundles.mono _ _ _
  | exact shapesearchref01_Cmp.mono _ _ _ _ _
  | exact LeO.none _
  | refine LeO.ite ?_ ?_
  | refine LeO.bind ?_ (fun _=>?_)
def shapesearchlaw16_ChannelsMore.T3 : Bool × List (List Nat × List Nat):=(true,[([],[]),([],[]),([0,1],[0,1]),([],[]),([],[]),([3,4],[3,4]),([],[]),([2,5,6],[2,5,6]),([7],[7]),([8],[8]),([8],[8]),([9,7,0,1,2,3,4,5,6,7,8,9],[9]),([10,11,0,1,2,3,4,5,6,7,8,9,10,11],[10])])
def shapesearchlaw16_ChannelsMore.B3 : List Nat:=[0,0,3,0,0,24,0,127,255,511,511,1023,4095]
theorem shapesearchlaw16_ChannelsMore.tab3 : rtab .any (opsOf Try.f5 3) = shapesearchlaw16_ChannelsMore.T3:=by kernel_rfl
theorem shapesearchlaw16_ChannelsMore.bits3 : waitsOk shapesearchlaw16_ChannelsMore.T3.2 shapesearchlaw16_ChannelsMore.B3 = true:=by kernel_rfl
def shapesearchlaw16_ChannelsMore.T5 : Bool × List (List Nat × List Nat):=(true,[([],[]),([],[]),([0,1],[0,1]),([],[]),([],[]),([3,4],[3,4]),([],[]),([2,5,6],[2,5,6]),([7],[7]),([8],[8]),([8],[8]),([9,7,0,1,2,3,4,5,6,7,8,9],[9]),([10,11,0,1,2,3,4,5,6,7,8,9,10,11],[10])])
def shapesearchlaw16_ChannelsMore.B5 : List Nat:=[0,0,3,0,0,24,0,127,255,511,511,1023,4095]
theorem shapesearchlaw16_ChannelsMore.tab5 : rtab .any (opsOf Try.f5 5) = shapesearchlaw16_ChannelsMore.T5:=by kernel_rfl
theorem shapesearchlaw16_ChannelsMore.bits5 : waitsOk shapesearchlaw16_ChannelsMore.T5.2 shapesearchlaw16_ChannelsMore.B5 = true:=by kernel_rfl
def shapesearchlaw16_ChannelsMore.T9 : Bool × List (List Nat × List Nat):=(true,[([],[]),([0],[0]),([1],[1]),([2],[2]),([],[]),([4],[4]),([5],[5]),([6],[6]),([3,7],[3,7])])
def shapesearchlaw16_ChannelsMore.B9 : List Nat:=[0,1,3,7,0,16,48,112,255]
theorem shapesearchlaw16_ChannelsMore.tab9 : rtab .any (opsOf Try.f5 9) = shapesearchlaw16_ChannelsMore.T9:=by kernel_rfl
theorem shapesearchlaw16_ChannelsMore.bits9 : waitsOk shapesearchlaw16_ChannelsMore.T9.2 shapesearchlaw16_ChannelsMore.B9 = true:=by kernel_rfl
def shapesearchlaw16_ChannelsMore.T10 : Bool × List (List Nat × List Nat):=(true,[([],[]),([],[]),([0,1],[0,1]),([],[]),([],[]),([3,4],[3,4]),([2,5],[2,5]),([6],[6]),([7],[7]),([7],[7]),([],[]),([10,8,6,0,1,2,3,4,5,6,7,8,10],[8,10]),([9,11,0,1,2,3,4,5,6,7,8,9,10,11],[9])])
def shapesearchlaw16_ChannelsMore.B10 : List Nat:=[0,0,3,0,0,24,63,127,255,255,0,1535,4095]
theorem shapesearchlaw16_ChannelsMore.tab10 : rtab .any (opsOf Try.f5 10) = shapesearchlaw16_ChannelsMore.T10:=by kernel_rfl
theorem shapesearchlaw16_ChannelsMore.bits10 : waitsOk shapesearchlaw16_ChannelsMore.T10.2 shapesearchlaw16_ChannelsMore.B10 = true:=by kernel_rfl
set_option maxHeartbeats 8000000 in
set_option maxRecDepth 100000 in
theorem shapesearchlaw16_ChannelsMore.calls (k : Nat) (A0 : Option Addr) (c0 : Nat) (l0 : List Int) (r : Bool) (w : World) (hr0 : Kd.C (Kd.int .i64) w A0 l0.length l0) (hc0 : l0.length ≤ c0) (h : shapesearchlaw16_ChannelsMore.f k l0 = some r) (hT_ : r = true) :
 Calls Try.prog 5 #[.slice A0 l0.length c0] w fun e w'=>e = .returned (.bool r)∧Below w.heap.size w w':=by
 have HTR_:=A_ hT_
 clear hT_
 have hu36:=Try.underlying36
 have HR0:=A_ hr0
 have HC0:=A_ hc0
 clear hr0 hc0
 have HB:=A_ (Below.refl w.heap.size w)
 have H : ((shapesearchkeep_New.f l0).bind fun bt330=>((shapesearchlaw16_bundles.f k bt330.1 bt330.2).bind fun bt333=>(if 0 ≤ (mx 1 (wrap64 ((bt333.1.length : Int) - 1))) then (if (mx 1 (wrap64 ((bt333.1.length : Int) - 1))) ≤ (bt333.1.length : Int) then (if (mx 1 (wrap64 ((bt333.1.length : Int) - 1))) ≤ (bt333.2.1.length : Int) then ((channels_Apart.f k (bt333.1.take ((mx 1 (wrap64 ((bt333.1.length : Int) - 1))) : Int).toNat) (bt333.2.1.take ((mx 1 (wrap64 ((bt333.1.length : Int) - 1))) : Int).toNat) bt333.2.2.1).bind fun bt349=>((channels_Apart.f k bt333.1 bt333.2.1 bt333.2.2.1).bind fun bt351=>((channels_Together.f k (bt333.1.take ((mx 1 (wrap64 ((bt333.1.length : Int) - 1))) : Int).toNat) (bt333.2.1.take ((mx 1 (wrap64 ((bt333.1.length : Int) - 1))) : Int).toNat) bt333.2.2.1).bind fun bt361=>((channels_Together.f k bt333.1 bt333.2.1 bt333.2.2.1).bind fun bt363=>(if bt349.2 = 0 then (if bt351.2 = 0 then (if bt361.2 = 0 then (if bt363.2 = 0 then (if bt349.1 > bt351.1 then (shapesearchlaw16_ChannelsMore.j0 k bt333.1 bt333.2.1 (mx 1 (wrap64 ((bt333.1.length : Int) - 1))) true) else (shapesearchlaw16_ChannelsMore.j0 k bt333.1 bt333.2.1 (mx 1 (wrap64 ((bt333.1.length : Int) - 1))) (decide (bt361.1 > bt363.1)))) else (shapesearchlaw16_ChannelsMore.j0 k bt333.1 bt333.2.1 (mx 1 (wrap64 ((bt333.1.length : Int) - 1))) true)) else (shapesearchlaw16_ChannelsMore.j0 k bt333.1 bt333.2.1 (mx 1 (wrap64 ((bt333.1.length : Int) - 1))) true)) else (shapesearchlaw16_ChannelsMore.j0 k bt333.1 bt333.2.1 (mx 1 (wrap64 ((bt333.1.length : Int) - 1))) true)) else (shapesearchlaw16_ChannelsMore.j0 k bt333.1 bt333.2.1 (mx 1 (wrap64 ((bt333.1.length : Int) - 1))) true)))))) else (none)) else (none)) else (none)))) = some r:=h
 clear h
 replace H:=Option.bind_eq_some_iff.mp H
 obtain ⟨⟨t330,t331⟩,A20,H⟩:=H
 replace H : ((shapesearchlaw16_bundles.f k t330 t331).bind fun bt333=>(if 0 ≤ (mx 1 (wrap64 ((bt333.1.length : Int) - 1))) then (if (mx 1 (wrap64 ((bt333.1.length : Int) - 1))) ≤ (bt333.1.length : Int) then (if (mx 1 (wrap64 ((bt333.1.length : Int) - 1))) ≤ (bt333.2.1.length : Int) then ((channels_Apart.f k (bt333.1.take ((mx 1 (wrap64 ((bt333.1.length : Int) - 1))) : Int).toNat) (bt333.2.1.take ((mx 1 (wrap64 ((bt333.1.length : Int) - 1))) : Int).toNat) bt333.2.2.1).bind fun bt349=>((channels_Apart.f k bt333.1 bt333.2.1 bt333.2.2.1).bind fun bt351=>((channels_Together.f k (bt333.1.take ((mx 1 (wrap64 ((bt333.1.length : Int) - 1))) : Int).toNat) (bt333.2.1.take ((mx 1 (wrap64 ((bt333.1.length : Int) - 1))) : Int).toNat) bt333.2.2.1).bind fun bt361=>((channels_Together.f k bt333.1 bt333.2.1 bt333.2.2.1).bind fun bt363=>(if bt349.2 = 0 then (if bt351.2 = 0 then (if bt361.2 = 0 then (if bt363.2 = 0 then (if bt349.1 > bt351.1 then (shapesearchlaw16_ChannelsMore.j0 k bt333.1 bt333.2.1 (mx 1 (wrap64 ((bt333.1.length : Int) - 1))) true) else (shapesearchlaw16_ChannelsMore.j0 k bt333.1 bt333.2.1 (mx 1 (wrap64 ((bt333.1.length : Int) - 1))) (decide (bt361.1 > bt363.1)))) else (shapesearchlaw16_ChannelsMore.j0 k bt333.1 bt333.2.1 (mx 1 (wrap64 ((bt333.1.length : Int) - 1))) true)) else (shapesearchlaw16_ChannelsMore.j0 k bt333.1 bt333.2.1 (mx 1 (wrap64 ((bt333.1.length : Int) - 1))) true)) else (shapesearchlaw16_ChannelsMore.j0 k bt333.1 bt333.2.1 (mx 1 (wrap64 ((bt333.1.length : Int) - 1))) true)) else (shapesearchlaw16_ChannelsMore.j0 k bt333.1 bt333.2.1 (mx 1 (wrap64 ((bt333.1.length : Int) - 1))) true)))))) else (none)) else (none)) else (none))) = some r:=H
 have A2:=A_ A20
 clear A20
 replace H:=Option.bind_eq_some_iff.mp H
 obtain ⟨⟨t333,t336,t339,t340⟩,A30,H⟩:=H
 replace H : (if 0 ≤ (mx 1 (wrap64 ((t333.length : Int) - 1))) then (if (mx 1 (wrap64 ((t333.length : Int) - 1))) ≤ (t333.length : Int) then (if (mx 1 (wrap64 ((t333.length : Int) - 1))) ≤ (t336.length : Int) then ((channels_Apart.f k (t333.take ((mx 1 (wrap64 ((t333.length : Int) - 1))) : Int).toNat) (t336.take ((mx 1 (wrap64 ((t333.length : Int) - 1))) : Int).toNat) t339).bind fun bt349=>((channels_Apart.f k t333 t336 t339).bind fun bt351=>((channels_Together.f k (t333.take ((mx 1 (wrap64 ((t333.length : Int) - 1))) : Int).toNat) (t336.take ((mx 1 (wrap64 ((t333.length : Int) - 1))) : Int).toNat) t339).bind fun bt361=>((channels_Together.f k t333 t336 t339).bind fun bt363=>(if bt349.2 = 0 then (if bt351.2 = 0 then (if bt361.2 = 0 then (if bt363.2 = 0 then (if bt349.1 > bt351.1 then (shapesearchlaw16_ChannelsMore.j0 k t333 t336 (mx 1 (wrap64 ((t333.length : Int) - 1))) true) else (shapesearchlaw16_ChannelsMore.j0 k t333 t336 (mx 1 (wrap64 ((t333.length : Int) - 1))) (decide (bt361.1 > bt363.1)))) else (shapesearchlaw16_ChannelsMore.j0 k t333 t336 (mx 1 (wrap64 ((t333.length : Int) - 1))) true)) else (shapesearchlaw16_ChannelsMore.j0 k t333 t336 (mx 1 (wrap64 ((t333.length : Int) - 1))) true)) else (shapesearchlaw16_ChannelsMore.j0 k t333 t336 (mx 1 (wrap64 ((t333.length : Int) - 1))) true)) else (shapesearchlaw16_ChannelsMore.j0 k t333 t336 (mx 1 (wrap64 ((t333.length : Int) - 1))) true)))))) else (none)) else (none)) else (none)) = some r:=H
 have A3:=A_ A30
 clear A30
 obtain ⟨ji4,hji4⟩ : ∃ j_ : Int,(mx 1 (wrap64 ((t333.length : Int) - 1))) = j_:=⟨_,rfl⟩
 replace H : (if 0 ≤ (ji4) then (if (ji4) ≤ (t333.length : Int) then (if (ji4) ≤ (t336.length : Int) then ((channels_Apart.f k (t333.take ((ji4) : Int).toNat) (t336.take ((ji4) : Int).toNat) t339).bind fun bt349=>((channels_Apart.f k t333 t336 t339).bind fun bt351=>((channels_Together.f k (t333.take ((ji4) : Int).toNat) (t336.take ((ji4) : Int).toNat) t339).bind fun bt361=>((channels_Together.f k t333 t336 t339).bind fun bt363=>(if bt349.2 = 0 then (if bt351.2 = 0 then (if bt361.2 = 0 then (if bt363.2 = 0 then (if bt349.1 > bt351.1 then (shapesearchlaw16_ChannelsMore.j0 k t333 t336 ji4 true) else (shapesearchlaw16_ChannelsMore.j0 k t333 t336 ji4 (decide (bt361.1 > bt363.1)))) else (shapesearchlaw16_ChannelsMore.j0 k t333 t336 ji4 true)) else (shapesearchlaw16_ChannelsMore.j0 k t333 t336 ji4 true)) else (shapesearchlaw16_ChannelsMore.j0 k t333 t336 ji4 true)) else (shapesearchlaw16_ChannelsMore.j0 k t333 t336 ji4 true)))))) else (none)) else (none)) else (none)) = some r:=by first|(rw [hji4] at H;exact H)|(simp only [hji4] at H ⊢;exact H)
 (try rw [hji4] at A2)
 (try rw [hji4] at A3)
 (try (have hji4l : 1 ≤ ji4:=by (rw [← hji4];unfold mx;(repeat' split) <;> omega)))
 (try (have hji4m : 0 ≤ ji4:=by omega))
 have hji4_ : (if 1 < (wrap64 ((t333.length : Int) - 1)) then (wrap64 ((t333.length : Int) - 1)) else 1) = ji4:=hji4
 by_cases c5 : 0 ≤ (ji4)
 ·
  rw [if_pos c5] at H
  have c5b0:=eq_true c5
  have c5b1 : decide (0 ≤ (ji4)) = true:=decide_eq_true c5
  clear c5
  by_cases c6 : (ji4) ≤ (t333.length : Int)
  ·
   rw [if_pos c6] at H
   have c6b0:=eq_true c6
   have c6b1 : decide ((ji4) ≤ (t333.length : Int)) = true:=decide_eq_true c6
   clear c6
   obtain ⟨y341,hy341⟩ : ∃ y_ : List (List Int),y_ = (t333.take ((ji4) : Int).toNat):=⟨_,rfl⟩
   replace H : (if (ji4) ≤ (t336.length : Int) then ((channels_Apart.f k y341 (t336.take ((ji4) : Int).toNat) t339).bind fun bt349=>((channels_Apart.f k t333 t336 t339).bind fun bt351=>((channels_Together.f k (t333.take ((ji4) : Int).toNat) (t336.take ((ji4) : Int).toNat) t339).bind fun bt361=>((channels_Together.f k t333 t336 t339).bind fun bt363=>(if bt349.2 = 0 then (if bt351.2 = 0 then (if bt361.2 = 0 then (if bt363.2 = 0 then (if bt349.1 > bt351.1 then (shapesearchlaw16_ChannelsMore.j0 k t333 t336 ji4 true) else (shapesearchlaw16_ChannelsMore.j0 k t333 t336 ji4 (decide (bt361.1 > bt363.1)))) else (shapesearchlaw16_ChannelsMore.j0 k t333 t336 ji4 true)) else (shapesearchlaw16_ChannelsMore.j0 k t333 t336 ji4 true)) else (shapesearchlaw16_ChannelsMore.j0 k t333 t336 ji4 true)) else (shapesearchlaw16_ChannelsMore.j0 k t333 t336 ji4 true)))))) else (none)) = some r:=by first|(rw [hy341];with_reducible exact H)|(have H2_:=(Option.bind_some _ _).symm.trans H;rw [hy341];with_reducible exact H2_)|(have H2_:=(Option.bind_some _ _).symm.trans H;with_reducible exact H2_)|with_reducible exact H|(rw [hy341];exact H)|exact H
   have Ny341:=A_ hy341
   clear hy341
   have c7b0:=eq_true (of_decide_eq_true (by first|(with_reducible assumption)|assumption) : 0 ≤ (ji4))
   by_cases c8 : (ji4) ≤ (t336.length : Int)
   ·
    rw [if_pos c8] at H
    have c8b0:=eq_true c8
    have c8b1 : decide ((ji4) ≤ (t336.length : Int)) = true:=decide_eq_true c8
    clear c8
    obtain ⟨y345,hy345⟩ : ∃ y_ : List (List Int),y_ = (t336.take ((ji4) : Int).toNat):=⟨_,rfl⟩
    replace H : ((channels_Apart.f k y341 y345 t339).bind fun bt349=>((channels_Apart.f k t333 t336 t339).bind fun bt351=>((channels_Together.f k (t333.take ((ji4) : Int).toNat) (t336.take ((ji4) : Int).toNat) t339).bind fun bt361=>((channels_Together.f k t333 t336 t339).bind fun bt363=>(if bt349.2 = 0 then (if bt351.2 = 0 then (if bt361.2 = 0 then (if bt363.2 = 0 then (if bt349.1 > bt351.1 then (shapesearchlaw16_ChannelsMore.j0 k t333 t336 ji4 true) else (shapesearchlaw16_ChannelsMore.j0 k t333 t336 ji4 (decide (bt361.1 > bt363.1)))) else (shapesearchlaw16_ChannelsMore.j0 k t333 t336 ji4 true)) else (shapesearchlaw16_ChannelsMore.j0 k t333 t336 ji4 true)) else (shapesearchlaw16_ChannelsMore.j0 k t333 t336 ji4 true)) else (shapesearchlaw16_ChannelsMore.j0 k t333 t336 ji4 true)))))) = some r:=by first|(rw [hy345];with_reducible exact H)|(have H2_:=(Option.bind_some _ _).symm.trans H;rw [hy345];with_reducible exact H2_)|(have H2_:=(Option.bind_some _ _).symm.trans H;with_reducible exact H2_)|with_reducible exact H|(rw [hy345];exact H)|exact H
    have Ny345:=A_ hy345
    clear hy345
    replace H:=Option.bind_eq_some_iff.mp H
    obtain ⟨⟨t349,t350⟩,A90,H⟩:=H
    replace H : ((channels_Apart.f k t333 t336 t339).bind fun bt351=>((channels_Together.f k (t333.take ((ji4) : Int).toNat) (t336.take ((ji4) : Int).toNat) t339).bind fun bt361=>((channels_Together.f k t333 t336 t339).bind fun bt363=>(if t350 = 0 then (if bt351.2 = 0 then (if bt361.2 = 0 then (if bt363.2 = 0 then (if t349 > bt351.1 then (shapesearchlaw16_ChannelsMore.j0 k t333 t336 ji4 true) else (shapesearchlaw16_ChannelsMore.j0 k t333 t336 ji4 (decide (bt361.1 > bt363.1)))) else (shapesearchlaw16_ChannelsMore.j0 k t333 t336 ji4 true)) else (shapesearchlaw16_ChannelsMore.j0 k t333 t336 ji4 true)) else (shapesearchlaw16_ChannelsMore.j0 k t333 t336 ji4 true)) else (shapesearchlaw16_ChannelsMore.j0 k t333 t336 ji4 true))))) = some r:=H
    have A9:=A_ A90
    clear A90
    replace H:=Option.bind_eq_some_iff.mp H
    obtain ⟨⟨t351,t352⟩,A100,H⟩:=H
    replace H : ((channels_Together.f k (t333.take ((ji4) : Int).toNat) (t336.take ((ji4) : Int).toNat) t339).bind fun bt361=>((channels_Together.f k t333 t336 t339).bind fun bt363=>(if t350 = 0 then (if t352 = 0 then (if bt361.2 = 0 then (if bt363.2 = 0 then (if t349 > t351 then (shapesearchlaw16_ChannelsMore.j0 k t333 t336 ji4 true) else (shapesearchlaw16_ChannelsMore.j0 k t333 t336 ji4 (decide (bt361.1 > bt363.1)))) else (shapesearchlaw16_ChannelsMore.j0 k t333 t336 ji4 true)) else (shapesearchlaw16_ChannelsMore.j0 k t333 t336 ji4 true)) else (shapesearchlaw16_ChannelsMore.j0 k t333 t336 ji4 true)) else (shapesearchlaw16_ChannelsMore.j0 k t333 t336 ji4 true)))) = some r:=H
    have A10:=A_ A100
    clear A100
    have c11b0:=eq_true (of_decide_eq_true (by first|(with_reducible assumption)|assumption) : 0 ≤ (ji4))
    have c12b0:=eq_true (of_decide_eq_true (by first|(with_reducible assumption)|assumption) : (ji4) ≤ (t333.length : Int))
    obtain ⟨y353,hy353⟩ : ∃ y_ : List (List Int),y_ = (t333.take ((ji4) : Int).toNat):=⟨_,rfl⟩
    replace H : ((channels_Together.f k y353 (t336.take ((ji4) : Int).toNat) t339).bind fun bt361=>((channels_Together.f k t333 t336 t339).bind fun bt363=>(if t350 = 0 then (if t352 = 0 then (if bt361.2 = 0 then (if bt363.2 = 0 then (if t349 > t351 then (shapesearchlaw16_ChannelsMore.j0 k t333 t336 ji4 true) else (shapesearchlaw16_ChannelsMore.j0 k t333 t336 ji4 (decide (bt361.1 > bt363.1)))) else (shapesearchlaw16_ChannelsMore.j0 k t333 t336 ji4 true)) else (shapesearchlaw16_ChannelsMore.j0 k t333 t336 ji4 true)) else (shapesearchlaw16_ChannelsMore.j0 k t333 t336 ji4 true)) else (shapesearchlaw16_ChannelsMore.j0 k t333 t336 ji4 true)))) = some r:=by first|(rw [hy353];with_reducible exact H)|(have H2_:=(Option.bind_some _ _).symm.trans H;rw [hy353];with_reducible exact H2_)|(have H2_:=(Option.bind_some _ _).symm.trans H;with_reducible exact H2_)|with_reducible exact H|(rw [hy353];exact H)|exact H
    have Ny353:=A_ hy353
    clear hy353
    have c13b0:=eq_true (of_decide_eq_true (by first|(with_reducible assumption)|assumption) : 0 ≤ (ji4))
    have c14b0:=eq_true (of_decide_eq_true (by first|(with_reducible assumption)|assumption) : (ji4) ≤ (t336.length : Int))
    obtain ⟨y357,hy357⟩ : ∃ y_ : List (List Int),y_ = (t336.take ((ji4) : Int).toNat):=⟨_,rfl⟩
    replace H : ((channels_Together.f k y353 y357 t339).bind fun bt361=>((channels_Together.f k t333 t336 t339).bind fun bt363=>(if t350 = 0 then (if t352 = 0 then (if bt361.2 = 0 then (if bt363.2 = 0 then (if t349 > t351 then (shapesearchlaw16_ChannelsMore.j0 k t333 t336 ji4 true) else (shapesearchlaw16_ChannelsMore.j0 k t333 t336 ji4 (decide (bt361.1 > bt363.1)))) else (shapesearchlaw16_ChannelsMore.j0 k t333 t336 ji4 true)) else (shapesearchlaw16_ChannelsMore.j0 k t333 t336 ji4 true)) else (shapesearchlaw16_ChannelsMore.j0 k t333 t336 ji4 true)) else (shapesearchlaw16_ChannelsMore.j0 k t333 t336 ji4 true)))) = some r:=by first|(rw [hy357];with_reducible exact H)|(have H2_:=(Option.bind_some _ _).symm.trans H;rw [hy357];with_reducible exact H2_)|(have H2_:=(Option.bind_some _ _).symm.trans H;with_reducible exact H2_)|with_reducible exact H|(rw [hy357];exact H)|exact H
    have Ny357:=A_ hy357
    clear hy357
    replace H:=Option.bind_eq_some_iff.mp H
    obtain ⟨⟨t361,t362⟩,A150,H⟩:=H
    replace H : ((channels_Together.f k t333 t336 t339).bind fun bt363=>(if t350 = 0 then (if t352 = 0 then (if t362 = 0 then (if bt363.2 = 0 then (if t349 > t351 then (shapesearchlaw16_ChannelsMore.j0 k t333 t336 ji4 true) else (shapesearchlaw16_ChannelsMore.j0 k t333 t336 ji4 (decide (t361 > bt363.1)))) else (shapesearchlaw16_ChannelsMore.j0 k t333 t336 ji4 true)) else (shapesearchlaw16_ChannelsMore.j0 k t333 t336 ji4 true)) else (shapesearchlaw16_ChannelsMore.j0 k t333 t336 ji4 true)) else (shapesearchlaw16_ChannelsMore.j0 k t333 t336 ji4 true))) = some r:=H
    have A15:=A_ A150
    clear A150
    replace H:=Option.bind_eq_some_iff.mp H
    obtain ⟨⟨t363,t364⟩,A160,H⟩:=H
    replace H : (if t350 = 0 then (if t352 = 0 then (if t362 = 0 then (if t364 = 0 then (if t349 > t351 then (shapesearchlaw16_ChannelsMore.j0 k t333 t336 ji4 true) else (shapesearchlaw16_ChannelsMore.j0 k t333 t336 ji4 (decide (t361 > t363)))) else (shapesearchlaw16_ChannelsMore.j0 k t333 t336 ji4 true)) else (shapesearchlaw16_ChannelsMore.j0 k t333 t336 ji4 true)) else (shapesearchlaw16_ChannelsMore.j0 k t333 t336 ji4 true)) else (shapesearchlaw16_ChannelsMore.j0 k t333 t336 ji4 true)) = some r:=H
    have A16:=A_ A160
    clear A160
    have HC17:=A_ H
    clear H
    go_enter Try.func5,Try.ntmps5
    try go_wp2_with (first|((with_reducible refine gate_callee (f:=10) rfl ?_);refine goesL_ (some 21) rfl rfl Try.func10 (by kernel_rfl) rfl #[.slice A0 l0.length c0] rfl (by (try simp only [List.map_toArray,List.map_cons,List.map_nil]);first|done|rfl|(simp only [List.length_drop,List.length_take];rfl)|((try rw [KY22.out]);(try rw [KY23.out]);(try rw [KY28.out]);(try rw [KY29.out]);(try rw [KY50.out]);(try rw [KY51.out]);rfl)) ?_;(with_reducible refine (shapesearchkeep_New.calls _ _ l0 t330 t331 w _ ?side1 ?side2 ?side3 A2.out).mono ?_);(case side1=>repeat (first|(with_reducible first|exact HB.out|apply ba|apply bb|apply bc)|exact HB.out));(case side2=>exact HR0.out);(case side3=>exact HC0.out);rintro e w18 ⟨g332,rfl,hi,hb,hb2⟩;refine ⟨_,rfl,?_⟩;have n0_:=A_ (hb);have n1_:=A_ (hi);clear HB;have HB:=n0_;have HI332:=n1_;clear n0_ n1_;(try clear hb);(try clear hb2);(try clear hk);(try clear hi))|((with_reducible refine gate_callee (f:=9) rfl ?_);refine goesL_ (some 22) rfl rfl Try.func9 (by kernel_rfl) rfl #[.pointer (some ⟨g332,0,none⟩)] rfl (by (try simp only [List.map_toArray,List.map_cons,List.map_nil]);first|done|rfl|(simp only [List.length_drop,List.length_take];rfl)|((try rw [KY22.out]);(try rw [KY23.out]);(try rw [KY28.out]);(try rw [KY29.out]);(try rw [KY50.out]);(try rw [KY51.out]);rfl)) ?_;(with_reducible refine (shapesearchlaw16_bundles.calls k g332 t330 t331 t333 t336 t339 t340 w _ ?side1 ?side2 A3.out).mono ?_);(case side1=>repeat (first|(with_reducible first|exact HI332.out|apply IsS56.alloc|apply IsS56.drewN|apply IsS56.drew|apply IsS56.set_1)|exact HI332.out));(case side2=>repeat (first|(with_reducible first|exact HB.out|apply ba|apply bb|apply bc|refine below_set ?_ (IsS56.ge HI332.out))|exact HB.out));rintro e w19 ⟨v334,v337,rfl,ho0,ho1,hi,hb,hk⟩;refine ⟨_,rfl,?_⟩;have n0_:=A_ (Kd.S_lower ho0 (below_size (by repeat (first|(with_reducible first|exact HB.out|apply ba|apply bb|apply bc|refine below_set ?_ (IsS56.ge HI332.out))|exact HB.out))));have n1_:=A_ (Kd.S_lower ho1 (below_size (by repeat (first|(with_reducible first|exact HB.out|apply ba|apply bb|apply bc|refine below_set ?_ (IsS56.ge HI332.out))|exact HB.out))));have n2_:=A_ (hb);have n3_:=A_ (hi);clear HB;clear HI332;have HO335:=n0_;have HO338:=n1_;have HB:=n2_;have HI332:=n3_;clear n0_ n1_ n2_ n3_;(try clear hb);(try clear hb2);(try clear hk);(try clear hi);(try clear ho0);(try clear ho1);obtain ⟨Ao20,co20,eo20⟩:=Kd.S_slice HO335.out;subst eo20))
    have n0_:=A_ (Kd.S_drew HO335.out)
    have n1_:=A_ (Kd.S_drew HO338.out)
    have n2_:=A_ (IsS56.drew HI332.out)
    have n3_:=A_ (below_drew1 HB.out)
    clear HO335
    clear HO338
    clear HI332
    clear HB
    have HO335:=n0_
    have HO338:=n1_
    have HI332:=n2_
    have HB:=n3_
    clear n0_ n1_ n2_ n3_
    have q22 : ((ji4) : Int) ≤ ((t333.length : Int) : Int):=of_decide_eq_true (by first|(with_reducible assumption)|assumption)
    obtain ⟨i022,hi022,_,hsz22,_⟩:=info_parts info22
    have hroom22 : t333.length ≤ co20:=(Kd.S_reads' HO335.out).2.1
    have hC22 : Kd.C (Kd.slice 3 (Kd.int .i64)) _ Ao20 t333.length t333:=(Kd.S_reads' HO335.out).2.2
    have hcut22:=cut_to (P:=Try.prog) 23 22 .i64 Try.underlying23 hi022 Ao20 t333.length co20 (ji4) (of_decide_eq_true (by first|(with_reducible assumption)|assumption)) q22 hroom22
    have hr22:=Kd.C_take (m:=((ji4) : Int).toNat) hC22 (by omega)
    have hy22 : y341.length = ((ji4) : Int).toNat:=(by rw [Ny341.out,List.length_take];omega)
    rw [← Ny341.out] at hr22
    rw [← hy22] at hcut22
    have HR344:=A_ hr22
    have HC344:=A_ (show y341.length ≤ co20 from by omega)
    clear hr22 hC22 hroom22 hi022 hsz22
    have KY22:=A_ hy22
    clear hy22
    have KL22:=A_ (show ((ji4) : Int).toNat ≤ t333.length from by omega)
    replace q22:=eq_true q22
    obtain ⟨Ao24,co24,eo24⟩:=Kd.S_slice HO338.out
    (first|subst eo24|(injection eo24 with f1_ f2_ f3_;have f4_:=f1_.symm;have f5_:=f3_.symm;clear f1_ f2_ f3_;subst f4_;subst f5_))
    have q23 : ((ji4) : Int) ≤ ((t336.length : Int) : Int):=of_decide_eq_true (by first|(with_reducible assumption)|assumption)
    obtain ⟨i023,hi023,_,hsz23,_⟩:=info_parts info22
    have hroom23 : t336.length ≤ co24:=(Kd.S_reads' HO338.out).2.1
    have hC23 : Kd.C (Kd.slice 3 (Kd.int .i64)) _ Ao24 t336.length t336:=(Kd.S_reads' HO338.out).2.2
    have hcut23:=cut_to (P:=Try.prog) 23 22 .i64 Try.underlying23 hi023 Ao24 t336.length co24 (ji4) (of_decide_eq_true (by first|(with_reducible assumption)|assumption)) q23 hroom23
    have hr23:=Kd.C_take (m:=((ji4) : Int).toNat) hC23 (by omega)
    have hy23 : y345.length = ((ji4) : Int).toNat:=(by rw [Ny345.out,List.length_take];omega)
    rw [← Ny345.out] at hr23
    rw [← hy23] at hcut23
    have HR348:=A_ hr23
    have HC348:=A_ (show y345.length ≤ co24 from by omega)
    clear hr23 hC23 hroom23 hi023 hsz23
    have KY23:=A_ hy23
    clear hy23
    have KL23:=A_ (show ((ji4) : Int).toNat ≤ t336.length from by omega)
    replace q23:=eq_true q23
    refine start_ (n:=13) (S:=fun w'=>True) (ds:=[]) #[false,false,false,false,false,false,false,false,false,false,false,false,false] (by kernel_rfl) rfl rfl trivial (fun hHeld=>?_);refine with_tabW shapesearchlaw16_ChannelsMore.tab3 shapesearchlaw16_ChannelsMore.bits3 (fun HT_ HW_=>?_)
    generalize w19.drew = w21 at HO335 HO338 HI332 HB HR344 HR348 hHeld ⊢
    refine pure_ (i:=0) (N:=some 31) (v:=?_) (a':=?_) #[true,false,false,false,false,false,false,false,false,false,false,false,false] rfl rfl (any_of HT_.out (by kernel_rfl)) (fun _ _ _ h=>h) (Or.inl ⟨by rfl,?_⟩) ?_ ?_
    rotate_left
    ·
     intro w'
     go_simp
     with_reducible rfl
    rotate_left
    ·
     simp only [Act.put,sa,sb,sc,i64_w,i32_w]
     rfl
    refine pure_ (i:=1) (N:=some 32) (v:=?_) (a':=?_) #[true,true,false,false,false,false,false,false,false,false,false,false,false] rfl rfl (any_of HT_.out (by kernel_rfl)) (fun _ _ _ h=>h) (Or.inl ⟨by rfl,?_⟩) ?_ ?_
    rotate_left
    ·
     intro w'
     go_simp
     with_reducible rfl
    rotate_left
    ·
     simp only [Act.put,sa,sb,sc,i64_w,i32_w]
     rfl
    refine pure_ (i:=2) (N:=some 33) (v:=?_) (a':=?_) #[true,true,true,false,false,false,false,false,false,false,false,false,false] rfl rfl (any_of HT_.out (by kernel_rfl)) (fun _ _ _ h=>h) (Or.inl ⟨by rfl,?_⟩) ?_ ?_
    rotate_left
    ·
     intro w'
     go_simp
     with_reducible rfl
    rotate_left
    ·
     simp only [Act.put,sa,sb,sc,i64_w,i32_w]
     rfl
    refine pure_ (i:=3) (N:=some 34) (v:=?_) (a':=?_) #[true,true,true,true,false,false,false,false,false,false,false,false,false] rfl rfl (any_of HT_.out (by kernel_rfl)) (fun _ _ _ h=>h) (Or.inl ⟨by rfl,?_⟩) ?_ ?_
    rotate_left
    ·
     intro w'
     go_simp
     with_reducible rfl
    rotate_left
    ·
     simp only [Act.put,sa,sb,sc,i64_w,i32_w]
     rfl
    refine pure_ (i:=4) (N:=some 35) (v:=?_) (a':=?_) #[true,true,true,true,true,false,false,false,false,false,false,false,false] rfl rfl (any_of HT_.out (by kernel_rfl)) (fun _ _ _ h=>h) (Or.inl ⟨by rfl,?_⟩) ?_ ?_
    rotate_left
    ·
     intro w'
     go_simp
     with_reducible rfl
    rotate_left
    ·
     simp only [Act.put,sa,sb,sc,i64_w,i32_w]
     rfl
    refine pure_ (i:=5) (N:=some 36) (v:=?_) (a':=?_) #[true,true,true,true,true,true,false,false,false,false,false,false,false] rfl rfl (any_of HT_.out (by kernel_rfl)) (fun _ _ _ h=>h) (Or.inl ⟨by rfl,?_⟩) ?_ ?_
    rotate_left
    ·
     intro w'
     go_simp
     with_reducible rfl
    rotate_left
    ·
     simp only [Act.put,sa,sb,sc,i64_w,i32_w]
     rfl
    refine pure_ (i:=6) (N:=some 37) (v:=?_) (a':=?_) #[true,true,true,true,true,true,true,false,false,false,false,false,false] rfl rfl (any_of HT_.out (by kernel_rfl)) (fun _ _ _ h=>h) (Or.inl ⟨by rfl,?_⟩) ?_ ?_
    rotate_left
    ·
     intro w'
     go_simp
     with_reducible rfl
    rotate_left
    ·
     simp only [Act.put,sa,sb,sc,i64_w,i32_w]
     rfl
    refine one_ (i:=7) (N:=some 38) #[true,true,true,true,true,true,true,true,false,false,false,false,false] rfl rfl (one_of HT_.out (by kernel_rfl)) (by decide) (fun K hK=>?_)
    refine goes_ Try.func11 (by kernel_rfl) rfl #[.slice Ao20 y341.length co20,.slice Ao24 y345.length co24,.int .i64 t339] (by rfl) rfl rfl (by (try simp only [List.map_toArray,List.map_cons,List.map_nil]);first|done|rfl|(simp only [List.length_drop,List.length_take];rfl)|((try rw [KY22.out]);(try rw [KY23.out]);(try rw [KY28.out]);(try rw [KY29.out]);(try rw [KY50.out]);(try rw [KY51.out]);rfl)) ?_
    with_reducible refine (channels_Apart.calls k _ _ y341 _ _ y345 t339 t349 t350 _ ?side1 ?side2 ?side3 ?side4 A9.out).mono ?_
    (case side1=>repeat (first|exact (by repeat (first|(with_reducible exact HR344.out)|(with_reducible refine ca ?_ _)|(with_reducible refine cb ?_ _)|(with_reducible refine cc ?_)|exact HR344.out))|(with_reducible refine ca ?_ _)|(with_reducible refine cb ?_ _)|(with_reducible refine cc ?_)))
    (case side2=>exact HC344.out)
    (case side3=>repeat (first|exact (by repeat (first|(with_reducible exact HR348.out)|(with_reducible refine ca ?_ _)|(with_reducible refine cb ?_ _)|(with_reducible refine cc ?_)|exact HR348.out))|(with_reducible refine ca ?_ _)|(with_reducible refine cb ?_ _)|(with_reducible refine cc ?_)))
    (case side4=>exact HC348.out)
    rintro e w25 ⟨rfl,hb⟩
    refine ⟨_,rfl,?_⟩
    have n0_:=A_ (Kd.S_below (by (with_reducible repeat (first|apply sa_|apply sd_|apply se_));exact HO335.out) hb)
    have n1_:=A_ (Kd.S_below (by (with_reducible repeat (first|apply sa_|apply sd_|apply se_));exact HO338.out) hb)
    have n2_:=A_ (IsS56.below (by repeat (first|(with_reducible first|exact HI332.out|apply IsS56.alloc|apply IsS56.drewN|apply IsS56.drew|apply IsS56.set_1)|exact HI332.out)) hb)
    have n3_:=A_ (cl (by repeat (first|(with_reducible exact HR344.out)|(with_reducible refine ca ?_ _)|(with_reducible refine cb ?_ _)|(with_reducible refine cc ?_)|exact HR344.out)) hb)
    have n4_:=A_ (cl (by repeat (first|(with_reducible exact HR348.out)|(with_reducible refine ca ?_ _)|(with_reducible refine cb ?_ _)|(with_reducible refine cc ?_)|exact HR348.out)) hb)
    have n5_:=A_ (below_step (by repeat (first|(with_reducible first|exact HB.out|apply ba|apply bb|apply bc|refine below_set ?_ (IsS56.ge HI332.out))|exact HB.out)) hb)
    clear HO335
    clear HO338
    clear HI332
    clear HR344
    clear HR348
    clear HB
    have HO335:=n0_
    have HO338:=n1_
    have HI332:=n2_
    have HR344:=n3_
    have HR348:=n4_
    have HB:=n5_
    clear n0_ n1_ n2_ n3_ n4_ n5_
    (try clear hb)
    (try clear hb2)
    (try clear hk)
    (try clear hi)
    refine hK.out _ _ trivial (fun hHeld=>?_)
    clear hK K
    refine norm_ (a':=?_) ?_ ?_
    rotate_left
    ·
     show Act.put _ (some 38) _ = _
     simp only [Act.put,sa,sb,sc,i64_w,i32_w]
     rfl
    refine pure_ (i:=8) (N:=some 30) (v:=?_) (a':=?_) #[true,true,true,true,true,true,true,true,true,false,false,false,false] rfl rfl (any_of HT_.out (by kernel_rfl)) (fun _ _ _ h=>h) (Or.inl ⟨by rfl,?_⟩) ?_ ?_
    rotate_left
    ·
     intro w'
     go_simp
     with_reducible rfl
    rotate_left
    ·
     simp only [Act.put,sa,sb,sc,i64_w,i32_w]
     rfl
    refine pure_ (i:=9) (N:=some 39) (v:=?_) (a':=?_) #[true,true,true,true,true,true,true,true,true,true,false,false,false] rfl rfl (any_of HT_.out (by kernel_rfl)) (fun _ _ _ h=>h) (Or.inl ⟨by rfl,?_⟩) ?_ ?_
    rotate_left
    ·
     intro w'
     go_simp
     with_reducible rfl
    rotate_left
    ·
     simp only [Act.put,sa,sb,sc,i64_w,i32_w]
     rfl
    refine pure_ (i:=10) (N:=some 40) (v:=?_) (a':=?_) #[true,true,true,true,true,true,true,true,true,true,true,false,false] rfl rfl (any_of HT_.out (by kernel_rfl)) (fun _ _ _ h=>h) (Or.inl ⟨by rfl,?_⟩) ?_ ?_
    rotate_left
    ·
     intro w'
     go_simp
     with_reducible rfl
    rotate_left
    ·
     simp only [Act.put,sa,sb,sc,i64_w,i32_w]
     rfl
    refine pure_ (i:=11) (N:=some 7) (v:=?_) (a':=?_) #[true,true,true,true,true,true,true,true,true,true,true,true,false] rfl rfl (any_of HT_.out (by kernel_rfl)) (fun _ _ _ h=>h) (Or.inl ⟨by rfl,?_⟩) ?_ ?_
    rotate_left
    ·
     intro w'
     go_simp
     with_reducible rfl
    rotate_left
    ·
     simp only [Act.put,sa,sb,sc,i64_w,i32_w]
     rfl
    refine pure_ (i:=12) (N:=some 8) (v:=?_) (a':=?_) #[true,true,true,true,true,true,true,true,true,true,true,true,true] rfl rfl (any_of HT_.out (by kernel_rfl)) (fun _ _ _ h=>h) (Or.inl ⟨by rfl,?_⟩) ?_ ?_
    rotate_left
    ·
     intro w'
     go_simp
     with_reducible rfl
    rotate_left
    ·
     simp only [Act.put,sa,sb,sc,i64_w,i32_w]
     rfl
    refine done_ (done_of HT_.out (by kernel_rfl)) ?_
    try go_wp2_with (first|((with_reducible refine gate_callee (f:=11) rfl ?_);refine goesL_ (some 45) rfl rfl Try.func11 (by kernel_rfl) rfl #[.slice Ao20 t333.length co20,.slice Ao24 t336.length co24,.int .i64 t339] rfl (by (try simp only [List.map_toArray,List.map_cons,List.map_nil]);first|done|rfl|(simp only [List.length_drop,List.length_take];rfl)|((try rw [KY22.out]);(try rw [KY23.out]);(try rw [KY28.out]);(try rw [KY29.out]);(try rw [KY50.out]);(try rw [KY51.out]);rfl)) ?_;(with_reducible refine (channels_Apart.calls k _ _ t333 _ _ t336 t339 t351 t352 _ ?side1 ?side2 ?side3 ?side4 A10.out).mono ?_);(case side1=>repeat (first|exact (Kd.S_reads' HO335.out).2.2|(with_reducible refine ca ?_ _)|(with_reducible refine cb ?_ _)|(with_reducible refine cc ?_)));(case side2=>exact (Kd.S_reads' HO335.out).2.1);(case side3=>repeat (first|exact (Kd.S_reads' HO338.out).2.2|(with_reducible refine ca ?_ _)|(with_reducible refine cb ?_ _)|(with_reducible refine cc ?_)));(case side4=>exact (Kd.S_reads' HO338.out).2.1);rintro e w26 ⟨rfl,hb⟩;refine ⟨_,rfl,?_⟩;have n0_:=A_ (Kd.S_below (by (with_reducible repeat (first|apply sa_|apply sd_|apply se_));exact HO335.out) hb);have n1_:=A_ (Kd.S_below (by (with_reducible repeat (first|apply sa_|apply sd_|apply se_));exact HO338.out) hb);have n2_:=A_ (IsS56.below (by repeat (first|(with_reducible first|exact HI332.out|apply IsS56.alloc|apply IsS56.drewN|apply IsS56.drew|apply IsS56.set_1)|exact HI332.out)) hb);have n3_:=A_ (cl (by repeat (first|(with_reducible exact HR344.out)|(with_reducible refine ca ?_ _)|(with_reducible refine cb ?_ _)|(with_reducible refine cc ?_)|exact HR344.out)) hb);have n4_:=A_ (cl (by repeat (first|(with_reducible exact HR348.out)|(with_reducible refine ca ?_ _)|(with_reducible refine cb ?_ _)|(with_reducible refine cc ?_)|exact HR348.out)) hb);have n5_:=A_ (below_step (by repeat (first|(with_reducible first|exact HB.out|apply ba|apply bb|apply bc|refine below_set ?_ (IsS56.ge HI332.out))|exact HB.out)) hb);clear HO335;clear HO338;clear HI332;clear HR344;clear HR348;clear HB;have HO335:=n0_;have HO338:=n1_;have HI332:=n2_;have HR344:=n3_;have HR348:=n4_;have HB:=n5_;clear n0_ n1_ n2_ n3_ n4_ n5_;(try clear hb);(try clear hb2);(try clear hk);(try clear hi)))
    have n0_:=A_ (Kd.S_drew HO335.out)
    have n1_:=A_ (Kd.S_drew HO338.out)
    have n2_:=A_ (Kd.C_drew HR344.out)
    have n3_:=A_ (Kd.C_drew HR348.out)
    have n4_:=A_ (IsS56.drew HI332.out)
    have n5_:=A_ (below_drew1 HB.out)
    clear HO335
    clear HO338
    clear HR344
    clear HR348
    clear HI332
    clear HB
    have HO335:=n0_
    have HO338:=n1_
    have HR344:=n2_
    have HR348:=n3_
    have HI332:=n4_
    have HB:=n5_
    clear n0_ n1_ n2_ n3_ n4_ n5_
    have q28 : ((ji4) : Int) ≤ ((t333.length : Int) : Int):=of_decide_eq_true (by first|(with_reducible assumption)|assumption)
    obtain ⟨i028,hi028,_,hsz28,_⟩:=info_parts info22
    have hroom28 : t333.length ≤ co20:=(Kd.S_reads' HO335.out).2.1
    have hC28 : Kd.C (Kd.slice 3 (Kd.int .i64)) _ Ao20 t333.length t333:=(Kd.S_reads' HO335.out).2.2
    have hcut28:=cut_to (P:=Try.prog) 23 22 .i64 Try.underlying23 hi028 Ao20 t333.length co20 (ji4) (of_decide_eq_true (by first|(with_reducible assumption)|assumption)) q28 hroom28
    have hr28:=Kd.C_take (m:=((ji4) : Int).toNat) hC28 (by omega)
    have hy28 : y353.length = ((ji4) : Int).toNat:=(by rw [Ny353.out,List.length_take];omega)
    rw [← Ny353.out] at hr28
    rw [← hy28] at hcut28
    have HR356:=A_ hr28
    have HC356:=A_ (show y353.length ≤ co20 from by omega)
    clear hr28 hC28 hroom28 hi028 hsz28
    have KY28:=A_ hy28
    clear hy28
    have KL28:=A_ (show ((ji4) : Int).toNat ≤ t333.length from by omega)
    replace q28:=eq_true q28
    have q29 : ((ji4) : Int) ≤ ((t336.length : Int) : Int):=of_decide_eq_true (by first|(with_reducible assumption)|assumption)
    obtain ⟨i029,hi029,_,hsz29,_⟩:=info_parts info22
    have hroom29 : t336.length ≤ co24:=(Kd.S_reads' HO338.out).2.1
    have hC29 : Kd.C (Kd.slice 3 (Kd.int .i64)) _ Ao24 t336.length t336:=(Kd.S_reads' HO338.out).2.2
    have hcut29:=cut_to (P:=Try.prog) 23 22 .i64 Try.underlying23 hi029 Ao24 t336.length co24 (ji4) (of_decide_eq_true (by first|(with_reducible assumption)|assumption)) q29 hroom29
    have hr29:=Kd.C_take (m:=((ji4) : Int).toNat) hC29 (by omega)
    have hy29 : y357.length = ((ji4) : Int).toNat:=(by rw [Ny357.out,List.length_take];omega)
    rw [← Ny357.out] at hr29
    rw [← hy29] at hcut29
    have HR360:=A_ hr29
    have HC360:=A_ (show y357.length ≤ co24 from by omega)
    clear hr29 hC29 hroom29 hi029 hsz29
    have KY29:=A_ hy29
    clear hy29
    have KL29:=A_ (show ((ji4) : Int).toNat ≤ t336.length from by omega)
    replace q29:=eq_true q29
    refine start_ (n:=13) (S:=fun w'=>True) (ds:=[]) #[false,false,false,false,false,false,false,false,false,false,false,false,false] (by kernel_rfl) rfl rfl trivial (fun hHeld=>?_);refine with_tabW shapesearchlaw16_ChannelsMore.tab5 shapesearchlaw16_ChannelsMore.bits5 (fun HT_ HW_=>?_)
    generalize w26.drew = w27 at HO335 HO338 HR344 HR348 HI332 HB HR356 HR360 hHeld ⊢
    refine pure_ (i:=0) (N:=some 49) (v:=?_) (a':=?_) #[true,false,false,false,false,false,false,false,false,false,false,false,false] rfl rfl (any_of HT_.out (by kernel_rfl)) (fun _ _ _ h=>h) (Or.inl ⟨by rfl,?_⟩) ?_ ?_
    rotate_left
    ·
     intro w'
     go_simp
     with_reducible rfl
    rotate_left
    ·
     simp only [Act.put,sa,sb,sc,i64_w,i32_w]
     rfl
    refine pure_ (i:=1) (N:=some 50) (v:=?_) (a':=?_) #[true,true,false,false,false,false,false,false,false,false,false,false,false] rfl rfl (any_of HT_.out (by kernel_rfl)) (fun _ _ _ h=>h) (Or.inl ⟨by rfl,?_⟩) ?_ ?_
    rotate_left
    ·
     intro w'
     go_simp
     with_reducible rfl
    rotate_left
    ·
     simp only [Act.put,sa,sb,sc,i64_w,i32_w]
     rfl
    refine pure_ (i:=2) (N:=some 51) (v:=?_) (a':=?_) #[true,true,true,false,false,false,false,false,false,false,false,false,false] rfl rfl (any_of HT_.out (by kernel_rfl)) (fun _ _ _ h=>h) (Or.inl ⟨by rfl,?_⟩) ?_ ?_
    rotate_left
    ·
     intro w'
     go_simp
     with_reducible rfl
    rotate_left
    ·
     simp only [Act.put,sa,sb,sc,i64_w,i32_w]
     rfl
    refine pure_ (i:=3) (N:=some 52) (v:=?_) (a':=?_) #[true,true,true,true,false,false,false,false,false,false,false,false,false] rfl rfl (any_of HT_.out (by kernel_rfl)) (fun _ _ _ h=>h) (Or.inl ⟨by rfl,?_⟩) ?_ ?_
    rotate_left
    ·
     intro w'
     go_simp
     with_reducible rfl
    rotate_left
    ·
     simp only [Act.put,sa,sb,sc,i64_w,i32_w]
     rfl
    refine pure_ (i:=4) (N:=some 53) (v:=?_) (a':=?_) #[true,true,true,true,true,false,false,false,false,false,false,false,false] rfl rfl (any_of HT_.out (by kernel_rfl)) (fun _ _ _ h=>h) (Or.inl ⟨by rfl,?_⟩) ?_ ?_
    rotate_left
    ·
     intro w'
     go_simp
     with_reducible rfl
    rotate_left
    ·
     simp only [Act.put,sa,sb,sc,i64_w,i32_w]
     rfl
    refine pure_ (i:=5) (N:=some 54) (v:=?_) (a':=?_) #[true,true,true,true,true,true,false,false,false,false,false,false,false] rfl rfl (any_of HT_.out (by kernel_rfl)) (fun _ _ _ h=>h) (Or.inl ⟨by rfl,?_⟩) ?_ ?_
    rotate_left
    ·
     intro w'
     go_simp
     with_reducible rfl
    rotate_left
    ·
     simp only [Act.put,sa,sb,sc,i64_w,i32_w]
     rfl
    refine pure_ (i:=6) (N:=some 55) (v:=?_) (a':=?_) #[true,true,true,true,true,true,true,false,false,false,false,false,false] rfl rfl (any_of HT_.out (by kernel_rfl)) (fun _ _ _ h=>h) (Or.inl ⟨by rfl,?_⟩) ?_ ?_
    rotate_left
    ·
     intro w'
     go_simp
     with_reducible rfl
    rotate_left
    ·
     simp only [Act.put,sa,sb,sc,i64_w,i32_w]
     rfl
    refine one_ (i:=7) (N:=some 56) #[true,true,true,true,true,true,true,true,false,false,false,false,false] rfl rfl (one_of HT_.out (by kernel_rfl)) (by decide) (fun K hK=>?_)
    refine goes_ Try.func12 (by kernel_rfl) rfl #[.slice Ao20 y353.length co20,.slice Ao24 y357.length co24,.int .i64 t339] (by rfl) rfl rfl (by (try simp only [List.map_toArray,List.map_cons,List.map_nil]);first|done|rfl|(simp only [List.length_drop,List.length_take];rfl)|((try rw [KY22.out]);(try rw [KY23.out]);(try rw [KY28.out]);(try rw [KY29.out]);(try rw [KY50.out]);(try rw [KY51.out]);rfl)) ?_
    with_reducible refine (channels_Together.calls k _ _ y353 _ _ y357 t339 t361 t362 _ ?side1 ?side2 ?side3 ?side4 A15.out).mono ?_
    (case side1=>repeat (first|exact (by repeat (first|(with_reducible exact HR356.out)|(with_reducible refine ca ?_ _)|(with_reducible refine cb ?_ _)|(with_reducible refine cc ?_)|exact HR356.out))|(with_reducible refine ca ?_ _)|(with_reducible refine cb ?_ _)|(with_reducible refine cc ?_)))
    (case side2=>exact HC356.out)
    (case side3=>repeat (first|exact (by repeat (first|(with_reducible exact HR360.out)|(with_reducible refine ca ?_ _)|(with_reducible refine cb ?_ _)|(with_reducible refine cc ?_)|exact HR360.out))|(with_reducible refine ca ?_ _)|(with_reducible refine cb ?_ _)|(with_reducible refine cc ?_)))
    (case side4=>exact HC360.out)
    rintro e w30 ⟨rfl,hb⟩
    refine ⟨_,rfl,?_⟩
    have n0_:=A_ (Kd.S_below (by (with_reducible repeat (first|apply sa_|apply sd_|apply se_));exact HO335.out) hb)
    have n1_:=A_ (Kd.S_below (by (with_reducible repeat (first|apply sa_|apply sd_|apply se_));exact HO338.out) hb)
    have n2_:=A_ (IsS56.below (by repeat (first|(with_reducible first|exact HI332.out|apply IsS56.alloc|apply IsS56.drewN|apply IsS56.drew|apply IsS56.set_1)|exact HI332.out)) hb)
    have n3_:=A_ (cl (by repeat (first|(with_reducible exact HR344.out)|(with_reducible refine ca ?_ _)|(with_reducible refine cb ?_ _)|(with_reducible refine cc ?_)|exact HR344.out)) hb)
    have n4_:=A_ (cl (by repeat (first|(with_reducible exact HR348.out)|(with_reducible refine ca ?_ _)|(with_reducible refine cb ?_ _)|(with_reducible refine cc ?_)|exact HR348.out)) hb)
    have n5_:=A_ (cl (by repeat (first|(with_reducible exact HR356.out)|(with_reducible refine ca ?_ _)|(with_reducible refine cb ?_ _)|(with_reducible refine cc ?_)|exact HR356.out)) hb)
    have n6_:=A_ (cl (by repeat (first|(with_reducible exact HR360.out)|(with_reducible refine ca ?_ _)|(with_reducible refine cb ?_ _)|(with_reducible refine cc ?_)|exact HR360.out)) hb)
    have n7_:=A_ (below_step (by repeat (first|(with_reducible first|exact HB.out|apply ba|apply bb|apply bc|refine below_set ?_ (IsS56.ge HI332.out))|exact HB.out)) hb)
    clear HO335
    clear HO338
    clear HI332
    clear HR344
    clear HR348
    clear HR356
    clear HR360
    clear HB
    have HO335:=n0_
    have HO338:=n1_
    have HI332:=n2_
    have HR344:=n3_
    have HR348:=n4_
    have HR356:=n5_
    have HR360:=n6_
    have HB:=n7_
    clear n0_ n1_ n2_ n3_ n4_ n5_ n6_ n7_
    (try clear hb)
    (try clear hb2)
    (try clear hk)
    (try clear hi)
    refine hK.out _ _ trivial (fun hHeld=>?_)
    clear hK K
    refine norm_ (a':=?_) ?_ ?_
    rotate_left
    ·
     show Act.put _ (some 56) _ = _
     simp only [Act.put,sa,sb,sc,i64_w,i32_w]
     rfl
    refine pure_ (i:=8) (N:=some 48) (v:=?_) (a':=?_) #[true,true,true,true,true,true,true,true,true,false,false,false,false] rfl rfl (any_of HT_.out (by kernel_rfl)) (fun _ _ _ h=>h) (Or.inl ⟨by rfl,?_⟩) ?_ ?_
    rotate_left
    ·
     intro w'
     go_simp
     with_reducible rfl
    rotate_left
    ·
     simp only [Act.put,sa,sb,sc,i64_w,i32_w]
     rfl
    refine pure_ (i:=9) (N:=some 57) (v:=?_) (a':=?_) #[true,true,true,true,true,true,true,true,true,true,false,false,false] rfl rfl (any_of HT_.out (by kernel_rfl)) (fun _ _ _ h=>h) (Or.inl ⟨by rfl,?_⟩) ?_ ?_
    rotate_left
    ·
     intro w'
     go_simp
     with_reducible rfl
    rotate_left
    ·
     simp only [Act.put,sa,sb,sc,i64_w,i32_w]
     rfl
    refine pure_ (i:=10) (N:=some 58) (v:=?_) (a':=?_) #[true,true,true,true,true,true,true,true,true,true,true,false,false] rfl rfl (any_of HT_.out (by kernel_rfl)) (fun _ _ _ h=>h) (Or.inl ⟨by rfl,?_⟩) ?_ ?_
    rotate_left
    ·
     intro w'
     go_simp
     with_reducible rfl
    rotate_left
    ·
     simp only [Act.put,sa,sb,sc,i64_w,i32_w]
     rfl
    refine pure_ (i:=11) (N:=some 11) (v:=?_) (a':=?_) #[true,true,true,true,true,true,true,true,true,true,true,true,false] rfl rfl (any_of HT_.out (by kernel_rfl)) (fun _ _ _ h=>h) (Or.inl ⟨by rfl,?_⟩) ?_ ?_
    rotate_left
    ·
     intro w'
     go_simp
     with_reducible rfl
    rotate_left
    ·
     simp only [Act.put,sa,sb,sc,i64_w,i32_w]
     rfl
    refine pure_ (i:=12) (N:=some 12) (v:=?_) (a':=?_) #[true,true,true,true,true,true,true,true,true,true,true,true,true] rfl rfl (any_of HT_.out (by kernel_rfl)) (fun _ _ _ h=>h) (Or.inl ⟨by rfl,?_⟩) ?_ ?_
    rotate_left
    ·
     intro w'
     go_simp
     with_reducible rfl
    rotate_left
    ·
     simp only [Act.put,sa,sb,sc,i64_w,i32_w]
     rfl
    refine done_ (done_of HT_.out (by kernel_rfl)) ?_
    go_upto_region 7 with (first|((with_reducible refine gate_callee (f:=12) rfl ?_);refine goesL_ (some 63) rfl rfl Try.func12 (by kernel_rfl) rfl #[.slice Ao20 t333.length co20,.slice Ao24 t336.length co24,.int .i64 t339] rfl (by (try simp only [List.map_toArray,List.map_cons,List.map_nil]);first|done|rfl|(simp only [List.length_drop,List.length_take];rfl)|((try rw [KY22.out]);(try rw [KY23.out]);(try rw [KY28.out]);(try rw [KY29.out]);(try rw [KY50.out]);(try rw [KY51.out]);rfl)) ?_;(with_reducible refine (channels_Together.calls k _ _ t333 _ _ t336 t339 t363 t364 _ ?side1 ?side2 ?side3 ?side4 A16.out).mono ?_);(case side1=>repeat (first|exact (Kd.S_reads' HO335.out).2.2|(with_reducible refine ca ?_ _)|(with_reducible refine cb ?_ _)|(with_reducible refine cc ?_)));(case side2=>exact (Kd.S_reads' HO335.out).2.1);(case side3=>repeat (first|exact (Kd.S_reads' HO338.out).2.2|(with_reducible refine ca ?_ _)|(with_reducible refine cb ?_ _)|(with_reducible refine cc ?_)));(case side4=>exact (Kd.S_reads' HO338.out).2.1);rintro e w31 ⟨rfl,hb⟩;refine ⟨_,rfl,?_⟩;have n0_:=A_ (Kd.S_below (by (with_reducible repeat (first|apply sa_|apply sd_|apply se_));exact HO335.out) hb);have n1_:=A_ (Kd.S_below (by (with_reducible repeat (first|apply sa_|apply sd_|apply se_));exact HO338.out) hb);have n2_:=A_ (IsS56.below (by repeat (first|(with_reducible first|exact HI332.out|apply IsS56.alloc|apply IsS56.drewN|apply IsS56.drew|apply IsS56.set_1)|exact HI332.out)) hb);have n3_:=A_ (cl (by repeat (first|(with_reducible exact HR344.out)|(with_reducible refine ca ?_ _)|(with_reducible refine cb ?_ _)|(with_reducible refine cc ?_)|exact HR344.out)) hb);have n4_:=A_ (cl (by repeat (first|(with_reducible exact HR348.out)|(with_reducible refine ca ?_ _)|(with_reducible refine cb ?_ _)|(with_reducible refine cc ?_)|exact HR348.out)) hb);have n5_:=A_ (cl (by repeat (first|(with_reducible exact HR356.out)|(with_reducible refine ca ?_ _)|(with_reducible refine cb ?_ _)|(with_reducible refine cc ?_)|exact HR356.out)) hb);have n6_:=A_ (cl (by repeat (first|(with_reducible exact HR360.out)|(with_reducible refine ca ?_ _)|(with_reducible refine cb ?_ _)|(with_reducible refine cc ?_)|exact HR360.out)) hb);have n7_:=A_ (below_step (by repeat (first|(with_reducible first|exact HB.out|apply ba|apply bb|apply bc|refine below_set ?_ (IsS56.ge HI332.out))|exact HB.out)) hb);clear HO335;clear HO338;clear HI332;clear HR344;clear HR348;clear HR356;clear HR360;clear HB;have HO335:=n0_;have HO338:=n1_;have HI332:=n2_;have HR344:=n3_;have HR348:=n4_;have HR356:=n5_;have HR360:=n6_;have HB:=n7_;clear n0_ n1_ n2_ n3_ n4_ n5_ n6_ n7_;(try clear hb);(try clear hb2);(try clear hk);(try clear hi)))
    (try simp only [Act.put,List.setIfInBounds_toArray,List.set_cons_zero,List.set_cons_succ])
    go_cut [89] (fun v89 wc=>∃ (kq : Nat) (x89_16 : Bool),v89 = .bool x89_16∧Aside0 (shapesearchlaw16_ChannelsMore.j0 kq t333 t336 ji4 x89_16 = some r)∧Aside0 (kq ≤ k)∧Aside0 (Kd.S (Kd.slice 3 (Kd.int .i64)) 22 wc w.heap.size (fun k_=>some k_≠((.slice Ao24 t336.length co24) : Value).ownBlock) (.slice Ao20 t333.length co20) t333)∧Aside0 (Kd.S (Kd.slice 3 (Kd.int .i64)) 22 wc w.heap.size (fun k_=>some k_≠((.slice Ao20 t333.length co20) : Value).ownBlock) (.slice Ao24 t336.length co24) t336)∧Aside0 (Kd.C (Kd.slice 3 (Kd.int .i64)) wc Ao20 y341.length y341)∧Aside0 (Kd.C (Kd.slice 3 (Kd.int .i64)) wc Ao24 y345.length y345)∧Aside0 (Kd.C (Kd.slice 3 (Kd.int .i64)) wc Ao20 y353.length y353)∧Aside0 (Kd.C (Kd.slice 3 (Kd.int .i64)) wc Ao24 y357.length y357)∧Aside0 (Below w.heap.size w wc))
    case first =>
     have H:=HC17.out
     clear HC17
     by_cases c32 : t350 = 0
     ·
      rw [if_pos c32] at H
      have c32b0 : (t350 == 0) = true:=beq_iff_eq.mpr c32
      have c32b1 : (t350 != 0) = false:=bne_eq_false_iff_eq.mpr c32
      clear c32
      (first|rw [c32b0]|(simp only [i64_w,i32_w];rw [c32b0])|skip)
      by_cases c33 : t352 = 0
      ·
       rw [if_pos c33] at H
       have c33b0 : (t352 == 0) = true:=beq_iff_eq.mpr c33
       have c33b1 : (t352 != 0) = false:=bne_eq_false_iff_eq.mpr c33
       clear c33
       by_cases c34 : t362 = 0
       ·
        rw [if_pos c34] at H
        have c34b0 : (t362 == 0) = true:=beq_iff_eq.mpr c34
        have c34b1 : (t362 != 0) = false:=bne_eq_false_iff_eq.mpr c34
        clear c34
        by_cases c35 : t364 = 0
        ·
         rw [if_pos c35] at H
         have c35b0 : (t364 == 0) = true:=beq_iff_eq.mpr c35
         have c35b1 : (t364 != 0) = false:=bne_eq_false_iff_eq.mpr c35
         clear c35
         by_cases c36 : t349 > t351
         ·
          rw [if_pos c36] at H
          have c36b0 : decide (t351 < t349) = true:=decide_eq_true c36
          clear c36
          have H':=A_ H
          clear H
          go_wp2
          go_meet
          case rel=>exact ⟨_,(true),(by first|rfl|(simp;done)|(simp [*];done)),H',⟨by first|omega|exact Nat.le_refl _⟩,⟨by (with_reducible repeat (first|apply sa_|apply sd_|apply se_));exact HO335.out⟩,⟨by (with_reducible repeat (first|apply sa_|apply sd_|apply se_));exact HO338.out⟩,⟨by repeat (first|(with_reducible exact HR344.out)|(with_reducible refine ca ?_ _)|(with_reducible refine cb ?_ _)|(with_reducible refine cc ?_)|exact HR344.out)⟩,⟨by repeat (first|(with_reducible exact HR348.out)|(with_reducible refine ca ?_ _)|(with_reducible refine cb ?_ _)|(with_reducible refine cc ?_)|exact HR348.out)⟩,⟨by repeat (first|(with_reducible exact HR356.out)|(with_reducible refine ca ?_ _)|(with_reducible refine cb ?_ _)|(with_reducible refine cc ?_)|exact HR356.out)⟩,⟨by repeat (first|(with_reducible exact HR360.out)|(with_reducible refine ca ?_ _)|(with_reducible refine cb ?_ _)|(with_reducible refine cc ?_)|exact HR360.out)⟩,⟨by repeat (first|(with_reducible first|exact HB.out|apply ba|apply bb|apply bc|refine below_set ?_ (IsS56.ge HI332.out))|exact HB.out)⟩⟩
         ·
          rw [if_neg c36] at H
          have c36b0 : decide (t351 < t349) = false:=decide_eq_false c36
          clear c36
          have H':=A_ H
          clear H
          go_wp2
          go_meet
          case rel=>exact ⟨_,(decide (t361 > t363)),(by first|rfl|(simp;done)|(simp [*];done)),H',⟨by first|omega|exact Nat.le_refl _⟩,⟨by (with_reducible repeat (first|apply sa_|apply sd_|apply se_));exact HO335.out⟩,⟨by (with_reducible repeat (first|apply sa_|apply sd_|apply se_));exact HO338.out⟩,⟨by repeat (first|(with_reducible exact HR344.out)|(with_reducible refine ca ?_ _)|(with_reducible refine cb ?_ _)|(with_reducible refine cc ?_)|exact HR344.out)⟩,⟨by repeat (first|(with_reducible exact HR348.out)|(with_reducible refine ca ?_ _)|(with_reducible refine cb ?_ _)|(with_reducible refine cc ?_)|exact HR348.out)⟩,⟨by repeat (first|(with_reducible exact HR356.out)|(with_reducible refine ca ?_ _)|(with_reducible refine cb ?_ _)|(with_reducible refine cc ?_)|exact HR356.out)⟩,⟨by repeat (first|(with_reducible exact HR360.out)|(with_reducible refine ca ?_ _)|(with_reducible refine cb ?_ _)|(with_reducible refine cc ?_)|exact HR360.out)⟩,⟨by repeat (first|(with_reducible first|exact HB.out|apply ba|apply bb|apply bc|refine below_set ?_ (IsS56.ge HI332.out))|exact HB.out)⟩⟩
        ·
         rw [if_neg c35] at H
         have c35b0 : (t364 == 0) = false:=beq_eq_false_iff_ne.mpr c35
         have c35b1 : (t364 != 0) = true:=bne_iff_ne.mpr c35
         have H':=A_ H
         clear H
         go_wp2
         go_meet
         case rel=>exact ⟨_,(true),(by first|rfl|(simp;done)|(simp [*];done)),H',⟨by first|omega|exact Nat.le_refl _⟩,⟨by (with_reducible repeat (first|apply sa_|apply sd_|apply se_));exact HO335.out⟩,⟨by (with_reducible repeat (first|apply sa_|apply sd_|apply se_));exact HO338.out⟩,⟨by repeat (first|(with_reducible exact HR344.out)|(with_reducible refine ca ?_ _)|(with_reducible refine cb ?_ _)|(with_reducible refine cc ?_)|exact HR344.out)⟩,⟨by repeat (first|(with_reducible exact HR348.out)|(with_reducible refine ca ?_ _)|(with_reducible refine cb ?_ _)|(with_reducible refine cc ?_)|exact HR348.out)⟩,⟨by repeat (first|(with_reducible exact HR356.out)|(with_reducible refine ca ?_ _)|(with_reducible refine cb ?_ _)|(with_reducible refine cc ?_)|exact HR356.out)⟩,⟨by repeat (first|(with_reducible exact HR360.out)|(with_reducible refine ca ?_ _)|(with_reducible refine cb ?_ _)|(with_reducible refine cc ?_)|exact HR360.out)⟩,⟨by repeat (first|(with_reducible first|exact HB.out|apply ba|apply bb|apply bc|refine below_set ?_ (IsS56.ge HI332.out))|exact HB.out)⟩⟩
       ·
        rw [if_neg c34] at H
        have c34b0 : (t362 == 0) = false:=beq_eq_false_iff_ne.mpr c34
        have c34b1 : (t362 != 0) = true:=bne_iff_ne.mpr c34
        have H':=A_ H
        clear H
        go_wp2
        go_meet
        case rel=>exact ⟨_,(true),(by first|rfl|(simp;done)|(simp [*];done)),H',⟨by first|omega|exact Nat.le_refl _⟩,⟨by (with_reducible repeat (first|apply sa_|apply sd_|apply se_));exact HO335.out⟩,⟨by (with_reducible repeat (first|apply sa_|apply sd_|apply se_));exact HO338.out⟩,⟨by repeat (first|(with_reducible exact HR344.out)|(with_reducible refine ca ?_ _)|(with_reducible refine cb ?_ _)|(with_reducible refine cc ?_)|exact HR344.out)⟩,⟨by repeat (first|(with_reducible exact HR348.out)|(with_reducible refine ca ?_ _)|(with_reducible refine cb ?_ _)|(with_reducible refine cc ?_)|exact HR348.out)⟩,⟨by repeat (first|(with_reducible exact HR356.out)|(with_reducible refine ca ?_ _)|(with_reducible refine cb ?_ _)|(with_reducible refine cc ?_)|exact HR356.out)⟩,⟨by repeat (first|(with_reducible exact HR360.out)|(with_reducible refine ca ?_ _)|(with_reducible refine cb ?_ _)|(with_reducible refine cc ?_)|exact HR360.out)⟩,⟨by repeat (first|(with_reducible first|exact HB.out|apply ba|apply bb|apply bc|refine below_set ?_ (IsS56.ge HI332.out))|exact HB.out)⟩⟩
      ·
       rw [if_neg c33] at H
       have c33b0 : (t352 == 0) = false:=beq_eq_false_iff_ne.mpr c33
       have c33b1 : (t352 != 0) = true:=bne_iff_ne.mpr c33
       have H':=A_ H
       clear H
       go_wp2
       go_meet
       case rel=>exact ⟨_,(true),(by first|rfl|(simp;done)|(simp [*];done)),H',⟨by first|omega|exact Nat.le_refl _⟩,⟨by (with_reducible repeat (first|apply sa_|apply sd_|apply se_));exact HO335.out⟩,⟨by (with_reducible repeat (first|apply sa_|apply sd_|apply se_));exact HO338.out⟩,⟨by repeat (first|(with_reducible exact HR344.out)|(with_reducible refine ca ?_ _)|(with_reducible refine cb ?_ _)|(with_reducible refine cc ?_)|exact HR344.out)⟩,⟨by repeat (first|(with_reducible exact HR348.out)|(with_reducible refine ca ?_ _)|(with_reducible refine cb ?_ _)|(with_reducible refine cc ?_)|exact HR348.out)⟩,⟨by repeat (first|(with_reducible exact HR356.out)|(with_reducible refine ca ?_ _)|(with_reducible refine cb ?_ _)|(with_reducible refine cc ?_)|exact HR356.out)⟩,⟨by repeat (first|(with_reducible exact HR360.out)|(with_reducible refine ca ?_ _)|(with_reducible refine cb ?_ _)|(with_reducible refine cc ?_)|exact HR360.out)⟩,⟨by repeat (first|(with_reducible first|exact HB.out|apply ba|apply bb|apply bc|refine below_set ?_ (IsS56.ge HI332.out))|exact HB.out)⟩⟩
     ·
      rw [if_neg c32] at H
      have c32b0 : (t350 == 0) = false:=beq_eq_false_iff_ne.mpr c32
      have c32b1 : (t350 != 0) = true:=bne_iff_ne.mpr c32
      (first|rw [c32b0]|(simp only [i64_w,i32_w];rw [c32b0])|skip)
      have H':=A_ H
      clear H
      go_wp2
      go_meet
      case rel=>exact ⟨_,(true),(by first|rfl|(simp;done)|(simp [*];done)),H',⟨by first|omega|exact Nat.le_refl _⟩,⟨by (with_reducible repeat (first|apply sa_|apply sd_|apply se_));exact HO335.out⟩,⟨by (with_reducible repeat (first|apply sa_|apply sd_|apply se_));exact HO338.out⟩,⟨by repeat (first|(with_reducible exact HR344.out)|(with_reducible refine ca ?_ _)|(with_reducible refine cb ?_ _)|(with_reducible refine cc ?_)|exact HR344.out)⟩,⟨by repeat (first|(with_reducible exact HR348.out)|(with_reducible refine ca ?_ _)|(with_reducible refine cb ?_ _)|(with_reducible refine cc ?_)|exact HR348.out)⟩,⟨by repeat (first|(with_reducible exact HR356.out)|(with_reducible refine ca ?_ _)|(with_reducible refine cb ?_ _)|(with_reducible refine cc ?_)|exact HR356.out)⟩,⟨by repeat (first|(with_reducible exact HR360.out)|(with_reducible refine ca ?_ _)|(with_reducible refine cb ?_ _)|(with_reducible refine cc ?_)|exact HR360.out)⟩,⟨by repeat (first|(with_reducible first|exact HB.out|apply ba|apply bb|apply bc|refine below_set ?_ (IsS56.ge HI332.out))|exact HB.out)⟩⟩
    case rest =>
     clear HC17
     try clear c1
     try clear p2
     try clear q2
     try clear c3
     try clear c5
     try clear c5b0
     try clear c5b1
     try clear c6
     try clear c6b0
     try clear c6b1
     try clear p6
     try clear c7
     try clear c7b0
     try clear c8
     try clear c8b0
     try clear c8b1
     try clear c9
     try clear c10
     try clear c11
     try clear c11b0
     try clear c12
     try clear c12b0
     try clear c13
     try clear c13b0
     try clear c14
     try clear c14b0
     try clear q22
     try clear q23
     try clear q28
     try clear q29
     try clear c32
     try clear c32b0
     try clear c32b1
     try clear c33
     try clear c33b0
     try clear c33b1
     try clear c34
     try clear c34b0
     try clear c34b1
     try clear c35
     try clear c35b0
     try clear c35b1
     try clear c36
     try clear c36b0
     try clear q22
     try clear q23
     try clear q28
     try clear q29
     obtain ⟨kq,x89_16,rfl,HA,HJ16,HO_3,HO_4,HR344,HR348,HR356,HR360,HB⟩:=hcut
     cases kq with
     | zero=>exact absurd HA.out (by simp [shapesearchlaw16_ChannelsMore.j0])
     | succ kj16 =>
      have H:=HA.out
      clear HA
      simp only [shapesearchlaw16_ChannelsMore.j0] at H
      by_cases c37 : x89_16 = true
      ·
       subst c37
       have H1 : (some false) = some r:=by rw [if_pos rfl] at H;exact H
       clear H
       have H:=H1
       clear H1
       exact absurd ((Option.some.inj H).trans HTR_.out) (by decide)
      ·
       replace c37:=Bool.eq_false_iff.mpr c37
       subst c37
       have H1 : (if 0 < (t333.length : Int) then (if 0 < (t336.length : Int) then (if ((rd_L1 t333 0).length : Int) = ((rd_L1 t336 0).length : Int) then (if 0 ≤ ji4 then (if ji4 ≤ (t333.length : Int) then (if ji4 ≤ (t336.length : Int) then ((channels_Greatest.f kj16 (t333.take (ji4 : Int).toNat) (t336.take (ji4 : Int).toNat)).bind fun bt375=>((channels_Greatest.f kj16 t333 t336).bind fun bt379=>(if bt375.2.2 = 0 then (if bt379.2.2 = 0 then ((shapesearchref01_Cmp.f kj16 bt375.1 bt375.2.1 bt379.1 bt379.2.1).bind fun t383=>(if t383 ≤ 0 then ((shapesearchlaw16_awake.f kj16).bind fun t384=>(some t384)) else (some false))) else (some false)) else (some false)))) else (none)) else (none)) else (none)) else ((shapesearchlaw16_awake.f kj16).bind fun t385=>(some t385))) else (none)) else (none)) = some r:=by rw [if_neg (show ¬ (false = true) by decide)] at H;exact H
       clear H
       have H:=H1
       clear H1
       by_cases c38 : 0 < (t333.length : Int)
       ·
        rw [if_pos c38] at H
        have c38b0 : decide (0 < (t333.length : Int)) = true:=decide_eq_true c38
        have c38b1 : decide (0 < t333.length) = true:=decide_eq_true (by omega)
        clear c38
        by_cases c39 : 0 < (t336.length : Int)
        ·
         rw [if_pos c39] at H
         have c39b0 : decide (0 < (t336.length : Int)) = true:=decide_eq_true c39
         have c39b1 : decide (0 < t336.length) = true:=decide_eq_true (by omega)
         clear c39
         by_cases c40 : ((rd_L1 t333 0).length : Int) = ((rd_L1 t336 0).length : Int)
         ·
          rw [if_pos c40] at H
          have c40b0 : (((rd_L1 t333 0).length : Int) == ((rd_L1 t336 0).length : Int)) = true:=beq_iff_eq.mpr c40
          have c40b1 : (((rd_L1 t333 0).length : Int) != ((rd_L1 t336 0).length : Int)) = false:=bne_eq_false_iff_eq.mpr c40
          have c40b2 : ((rd_L1 t333 0).length == (rd_L1 t336 0).length) = true:=by first|simpa using c40|(simp at c40 ⊢;omega)
          clear c40
          by_cases c41 : 0 ≤ ji4
          ·
           rw [if_pos c41] at H
           have c41b0:=eq_true c41
           have c41b1 : decide (0 ≤ ji4) = true:=decide_eq_true c41
           clear c41
           by_cases c42 : ji4 ≤ (t333.length : Int)
           ·
            rw [if_pos c42] at H
            have c42b0:=eq_true c42
            have c42b1 : decide (ji4 ≤ (t333.length : Int)) = true:=decide_eq_true c42
            clear c42
            obtain ⟨y367,hy367⟩ : ∃ y_ : List (List Int),y_ = (t333.take (ji4 : Int).toNat):=⟨_,rfl⟩
            replace H : (if ji4 ≤ (t336.length : Int) then ((channels_Greatest.f kj16 y367 (t336.take (ji4 : Int).toNat)).bind fun bt375=>((channels_Greatest.f kj16 t333 t336).bind fun bt379=>(if bt375.2.2 = 0 then (if bt379.2.2 = 0 then ((shapesearchref01_Cmp.f kj16 bt375.1 bt375.2.1 bt379.1 bt379.2.1).bind fun t383=>(if t383 ≤ 0 then ((shapesearchlaw16_awake.f kj16).bind fun t384=>(some t384)) else (some false))) else (some false)) else (some false)))) else (none)) = some r:=by first|(rw [hy367];with_reducible exact H)|(have H2_:=(Option.bind_some _ _).symm.trans H;rw [hy367];with_reducible exact H2_)|(have H2_:=(Option.bind_some _ _).symm.trans H;with_reducible exact H2_)|with_reducible exact H|(rw [hy367];exact H)|exact H
            have Ny367:=A_ hy367
            clear hy367
            have c43b0:=eq_true (of_decide_eq_true (by first|(with_reducible assumption)|assumption) : 0 ≤ ji4)
            by_cases c44 : ji4 ≤ (t336.length : Int)
            ·
             rw [if_pos c44] at H
             have c44b0:=eq_true c44
             have c44b1 : decide (ji4 ≤ (t336.length : Int)) = true:=decide_eq_true c44
             clear c44
             obtain ⟨y371,hy371⟩ : ∃ y_ : List (List Int),y_ = (t336.take (ji4 : Int).toNat):=⟨_,rfl⟩
             replace H : ((channels_Greatest.f kj16 y367 y371).bind fun bt375=>((channels_Greatest.f kj16 t333 t336).bind fun bt379=>(if bt375.2.2 = 0 then (if bt379.2.2 = 0 then ((shapesearchref01_Cmp.f kj16 bt375.1 bt375.2.1 bt379.1 bt379.2.1).bind fun t383=>(if t383 ≤ 0 then ((shapesearchlaw16_awake.f kj16).bind fun t384=>(some t384)) else (some false))) else (some false)) else (some false)))) = some r:=by first|(rw [hy371];with_reducible exact H)|(have H2_:=(Option.bind_some _ _).symm.trans H;rw [hy371];with_reducible exact H2_)|(have H2_:=(Option.bind_some _ _).symm.trans H;with_reducible exact H2_)|with_reducible exact H|(rw [hy371];exact H)|exact H
             have Ny371:=A_ hy371
             clear hy371
             replace H:=Option.bind_eq_some_iff.mp H
             obtain ⟨⟨t375,t376,t377⟩,A450,H⟩:=H
             replace H : ((channels_Greatest.f kj16 t333 t336).bind fun bt379=>(if t377 = 0 then (if bt379.2.2 = 0 then ((shapesearchref01_Cmp.f kj16 t375 t376 bt379.1 bt379.2.1).bind fun t383=>(if t383 ≤ 0 then ((shapesearchlaw16_awake.f kj16).bind fun t384=>(some t384)) else (some false))) else (some false)) else (some false))) = some r:=H
             have A45:=A_ A450
             clear A450
             replace H:=Option.bind_eq_some_iff.mp H
             obtain ⟨⟨t379,t380,t381⟩,A460,H⟩:=H
             replace H : (if t377 = 0 then (if t381 = 0 then ((shapesearchref01_Cmp.f kj16 t375 t376 t379 t380).bind fun t383=>(if t383 ≤ 0 then ((shapesearchlaw16_awake.f kj16).bind fun t384=>(some t384)) else (some false))) else (some false)) else (some false)) = some r:=H
             have A46:=A_ A460
             clear A460
             have HC47:=A_ H
             clear H
             try go_wp2
             have n0_:=A_ (Kd.S_drew HO_3.out)
             have n1_:=A_ (Kd.S_drew HO_4.out)
             have n2_:=A_ (Kd.C_drew HR344.out)
             have n3_:=A_ (Kd.C_drew HR348.out)
             have n4_:=A_ (Kd.C_drew HR356.out)
             have n5_:=A_ (Kd.C_drew HR360.out)
             have n6_:=A_ (below_drew1 HB.out)
             clear HO_3
             clear HO_4
             clear HR344
             clear HR348
             clear HR356
             clear HR360
             clear HB
             have HO_3:=n0_
             have HO_4:=n1_
             have HR344:=n2_
             have HR348:=n3_
             have HR356:=n4_
             have HR360:=n5_
             have HB:=n6_
             clear n0_ n1_ n2_ n3_ n4_ n5_ n6_
             have p365 : 0 ≤ (0 : Int):=(by omega)
             have q365 : 0 < (t333.length : Int):=of_decide_eq_true (by first|(with_reducible assumption)|assumption)
             obtain ⟨ad365,A365_0,c365_0,e365,hx365_0,hl365_0,hi365_0⟩:=at_L1 (Kd.S_reads' HO_3.out).2.2 0 p365 q365
             cases e365
             obtain ⟨ce365,hce365,hMe365,hcc365⟩:=Kd.S_get HO_3.out [] 0 p365 (by first|exact q365|exact of_decide_eq_true (by first|(with_reducible assumption)|assumption)|(have e_:=(Kd.S_reads' HO_3.out).1;omega))
             obtain ⟨ve365_0,rfl,ge365_0⟩:=hMe365
             have hv365_0:=hcc365 0 _ rfl
             rw [Nat.add_zero,show ((Kd.slice 3 (Kd.int .i64))).sz = 1 from rfl,Nat.mul_one] at hv365_0
             replace hv365_0:=Option.some.inj (hv365_0.symm.trans hx365_0)
             rw [hv365_0] at ge365_0
             have HL365_0:=A_ (show Kd.R (Kd.int .i64) 3 _ _ _ _ (rd_L1 t333 0) from ge365_0)
             clear hv365_0 ge365_0
             clear hcc365 hce365
             have qi365 : (0 < t333.length) = True:=eq_true (by omega)
             (try rw [show ((0 : Int)).toNat = 0 from rfl] at hx365_0)
             (try rw [Addr.add_zero'] at hx365_0)
             have HR365_0:=A_ hi365_0
             have HC365_0:=A_ hl365_0
             clear hi365_0 hl365_0
             replace p365:=eq_true p365
             replace q365:=eq_true q365
             have p366 : 0 ≤ (0 : Int):=(by omega)
             have q366 : 0 < (t336.length : Int):=of_decide_eq_true (by first|(with_reducible assumption)|assumption)
             obtain ⟨ad366,A366_0,c366_0,e366,hx366_0,hl366_0,hi366_0⟩:=at_L1 (Kd.S_reads' HO_4.out).2.2 0 p366 q366
             cases e366
             obtain ⟨ce366,hce366,hMe366,hcc366⟩:=Kd.S_get HO_4.out [] 0 p366 (by first|exact q366|exact of_decide_eq_true (by first|(with_reducible assumption)|assumption)|(have e_:=(Kd.S_reads' HO_4.out).1;omega))
             obtain ⟨ve366_0,rfl,ge366_0⟩:=hMe366
             have hv366_0:=hcc366 0 _ rfl
             rw [Nat.add_zero,show ((Kd.slice 3 (Kd.int .i64))).sz = 1 from rfl,Nat.mul_one] at hv366_0
             replace hv366_0:=Option.some.inj (hv366_0.symm.trans hx366_0)
             rw [hv366_0] at ge366_0
             have HL366_0:=A_ (show Kd.R (Kd.int .i64) 3 _ _ _ _ (rd_L1 t336 0) from ge366_0)
             clear hv366_0 ge366_0
             clear hcc366 hce366
             have qi366 : (0 < t336.length) = True:=eq_true (by omega)
             (try rw [show ((0 : Int)).toNat = 0 from rfl] at hx366_0)
             (try rw [Addr.add_zero'] at hx366_0)
             have HR366_0:=A_ hi366_0
             have HC366_0:=A_ hl366_0
             clear hi366_0 hl366_0
             replace p366:=eq_true p366
             replace q366:=eq_true q366
             refine start_ (n:=9) (S:=fun w'=>w'.cell? ad365 = some (.slice A365_0 (rd_L1 t333 0).length c365_0)∧w'.cell? ad366 = some (.slice A366_0 (rd_L1 t336 0).length c366_0)) (ds:=[]) #[false,false,false,false,false,false,false,false,false] (by kernel_rfl) rfl rfl ⟨hx365_0,hx366_0⟩ (fun hHeld=>?_);refine with_tabW shapesearchlaw16_ChannelsMore.tab9 shapesearchlaw16_ChannelsMore.bits9 (fun HT_ HW_=>?_)
             generalize wc.drew = w48 at HO_3 HO_4 HR344 HR348 HR356 HR360 HB HL365_0 HL366_0 HR365_0 HR366_0 hx365_0 hx366_0 hHeld ⊢
             refine pure_ (i:=0) (N:=some 90) (v:=?_) (a':=?_) #[true,false,false,false,false,false,false,false,false] rfl rfl (any_of HT_.out (by kernel_rfl)) (fun _ _ _ h=>h) (Or.inl ⟨by rfl,?_⟩) ?_ ?_
             rotate_left
             ·
              intro w'
              go_simp
              with_reducible rfl
             rotate_left
             ·
              simp only [Act.put,sa,sb,sc,i64_w,i32_w]
              rfl
             refine pure_ (i:=1) (N:=some 91) (v:=?_) (a':=?_) #[true,true,false,false,false,false,false,false,false] rfl rfl (any_of HT_.out (by kernel_rfl)) (fun _ _ _ h=>h) (Or.inl ⟨by rfl,?_⟩) ?_ ?_
             rotate_left
             ·
              intro w'
              go_simp
              with_reducible rfl
             rotate_left
             ·
              simp only [Act.put,sa,sb,sc,i64_w,i32_w]
              rfl
             refine pure_ (i:=4) (N:=some 94) (v:=?_) (a':=?_) #[true,true,false,false,true,false,false,false,false] rfl rfl (any_of HT_.out (by kernel_rfl)) (fun _ _ _ h=>h) (Or.inl ⟨by rfl,?_⟩) ?_ ?_
             rotate_left
             ·
              intro w'
              go_simp
              with_reducible rfl
             rotate_left
             ·
              simp only [Act.put,sa,sb,sc,i64_w,i32_w]
              rfl
             refine pure_ (i:=5) (N:=some 95) (v:=?_) (a':=?_) #[true,true,false,false,true,true,false,false,false] rfl rfl (any_of HT_.out (by kernel_rfl)) (fun _ _ _ h=>h) (Or.inl ⟨by rfl,?_⟩) ?_ ?_
             rotate_left
             ·
              intro w'
              go_simp
              with_reducible rfl
             rotate_left
             ·
              simp only [Act.put,sa,sb,sc,i64_w,i32_w]
              rfl
             refine take_ (i:=2) (N:=some 92) (v:=?_) (a':=?_) #[true,true,true,false,true,true,false,false,false] rfl rfl (take_ofW HT_.out HW_.out (by kernel_rfl)) (fun _ _ _ h=>h) (Or.inl ⟨by rfl,?_⟩) hHeld ?_ ?_
             rotate_left
             ·
              rintro w' ⟨s0,s1⟩
              go_simp
              with_reducible rfl
             rotate_left
             ·
              simp only [Act.put,sa,sb,sc,i64_w,i32_w]
              rfl
             refine pure_ (i:=3) (N:=some 93) (v:=?_) (a':=?_) #[true,true,true,true,true,true,false,false,false] rfl rfl (any_of HT_.out (by kernel_rfl)) (fun _ _ _ h=>h) (Or.inl ⟨by rfl,?_⟩) ?_ ?_
             rotate_left
             ·
              intro w'
              go_simp
              with_reducible rfl
             rotate_left
             ·
              simp only [Act.put,sa,sb,sc,i64_w,i32_w]
              rfl
             refine take_ (i:=6) (N:=some 96) (v:=?_) (a':=?_) #[true,true,true,true,true,true,true,false,false] rfl rfl (take_ofW HT_.out HW_.out (by kernel_rfl)) (fun _ _ _ h=>h) (Or.inl ⟨by rfl,?_⟩) hHeld ?_ ?_
             rotate_left
             ·
              rintro w' ⟨s0,s1⟩
              go_simp
              with_reducible rfl
             rotate_left
             ·
              simp only [Act.put,sa,sb,sc,i64_w,i32_w]
              rfl
             refine pure_ (i:=7) (N:=some 97) (v:=?_) (a':=?_) #[true,true,true,true,true,true,true,true,false] rfl rfl (any_of HT_.out (by kernel_rfl)) (fun _ _ _ h=>h) (Or.inl ⟨by rfl,?_⟩) ?_ ?_
             rotate_left
             ·
              intro w'
              go_simp
              with_reducible rfl
             rotate_left
             ·
              simp only [Act.put,sa,sb,sc,i64_w,i32_w]
              rfl
             refine pure_ (i:=8) (N:=some 98) (v:=?_) (a':=?_) #[true,true,true,true,true,true,true,true,true] rfl rfl (any_of HT_.out (by kernel_rfl)) (fun _ _ _ h=>h) (Or.inl ⟨by rfl,?_⟩) ?_ ?_
             rotate_left
             ·
              intro w'
              go_simp
              with_reducible rfl
             rotate_left
             ·
              simp only [Act.put,sa,sb,sc,i64_w,i32_w]
              rfl
             refine done_ (done_of HT_.out (by kernel_rfl)) ?_
             try go_wp2
             have n0_:=A_ (Kd.S_drew HO_3.out)
             have n1_:=A_ (Kd.S_drew HO_4.out)
             have n2_:=A_ (Kd.R_drew HL365_0.out)
             have n3_:=A_ (Kd.R_drew HL366_0.out)
             have n4_:=A_ (Kd.C_drew HR344.out)
             have n5_:=A_ (Kd.C_drew HR348.out)
             have n6_:=A_ (Kd.C_drew HR356.out)
             have n7_:=A_ (Kd.C_drew HR360.out)
             have n8_:=A_ (Kd.C_drew HR365_0.out)
             have n9_:=A_ (Kd.C_drew HR366_0.out)
             have n10_:=A_ (below_drew1 HB.out)
             clear HO_3
             clear HO_4
             clear HL365_0
             clear HL366_0
             clear HR344
             clear HR348
             clear HR356
             clear HR360
             clear HR365_0
             clear HR366_0
             clear HB
             have HO_3:=n0_
             have HO_4:=n1_
             have HL365_0:=n2_
             have HL366_0:=n3_
             have HR344:=n4_
             have HR348:=n5_
             have HR356:=n6_
             have HR360:=n7_
             have HR365_0:=n8_
             have HR366_0:=n9_
             have HB:=n10_
             clear n0_ n1_ n2_ n3_ n4_ n5_ n6_ n7_ n8_ n9_ n10_
             have q50 : (ji4 : Int) ≤ ((t333.length : Int) : Int):=of_decide_eq_true (by first|(with_reducible assumption)|assumption)
             obtain ⟨i050,hi050,_,hsz50,_⟩:=info_parts info22
             have hroom50 : t333.length ≤ co20:=(Kd.S_reads' HO_3.out).2.1
             have hC50 : Kd.C (Kd.slice 3 (Kd.int .i64)) _ (some ad365) t333.length t333:=(Kd.S_reads' HO_3.out).2.2
             have hcut50:=cut_to (P:=Try.prog) 23 22 .i64 Try.underlying23 hi050 (some ad365) t333.length co20 ji4 (of_decide_eq_true (by first|(with_reducible assumption)|assumption)) q50 hroom50
             have hr50:=Kd.C_take (m:=(ji4 : Int).toNat) hC50 (by omega)
             have hy50 : y367.length = (ji4 : Int).toNat:=(by rw [Ny367.out,List.length_take];omega)
             rw [← Ny367.out] at hr50
             rw [← hy50] at hcut50
             have HR370:=A_ hr50
             have HC370:=A_ (show y367.length ≤ co20 from by omega)
             clear hr50 hC50 hroom50 hi050 hsz50
             have KY50:=A_ hy50
             clear hy50
             have KL50:=A_ (show (ji4 : Int).toNat ≤ t333.length from by omega)
             replace q50:=eq_true q50
             have q51 : (ji4 : Int) ≤ ((t336.length : Int) : Int):=of_decide_eq_true (by first|(with_reducible assumption)|assumption)
             obtain ⟨i051,hi051,_,hsz51,_⟩:=info_parts info22
             have hroom51 : t336.length ≤ co24:=(Kd.S_reads' HO_4.out).2.1
             have hC51 : Kd.C (Kd.slice 3 (Kd.int .i64)) _ (some ad366) t336.length t336:=(Kd.S_reads' HO_4.out).2.2
             have hcut51:=cut_to (P:=Try.prog) 23 22 .i64 Try.underlying23 hi051 (some ad366) t336.length co24 ji4 (of_decide_eq_true (by first|(with_reducible assumption)|assumption)) q51 hroom51
             have hr51:=Kd.C_take (m:=(ji4 : Int).toNat) hC51 (by omega)
             have hy51 : y371.length = (ji4 : Int).toNat:=(by rw [Ny371.out,List.length_take];omega)
             rw [← Ny371.out] at hr51
             rw [← hy51] at hcut51
             have HR374:=A_ hr51
             have HC374:=A_ (show y371.length ≤ co24 from by omega)
             clear hr51 hC51 hroom51 hi051 hsz51
             have KY51:=A_ hy51
             clear hy51
             have KL51:=A_ (show (ji4 : Int).toNat ≤ t336.length from by omega)
             replace q51:=eq_true q51
             refine start_ (n:=13) (S:=fun w'=>True) (ds:=[]) #[false,false,false,false,false,false,false,false,false,false,false,false,false] (by kernel_rfl) rfl rfl trivial (fun hHeld=>?_);refine with_tabW shapesearchlaw16_ChannelsMore.tab10 shapesearchlaw16_ChannelsMore.bits10 (fun HT_ HW_=>?_)
             generalize w48.drew = w49 at HO_3 HO_4 HL365_0 HL366_0 HR344 HR348 HR356 HR360 HR365_0 HR366_0 HB HR370 HR374 hHeld ⊢
             refine pure_ (i:=0) (N:=some 100) (v:=?_) (a':=?_) #[true,false,false,false,false,false,false,false,false,false,false,false,false] rfl rfl (any_of HT_.out (by kernel_rfl)) (fun _ _ _ h=>h) (Or.inl ⟨by rfl,?_⟩) ?_ ?_
             rotate_left
             ·
              intro w'
              go_simp
              with_reducible rfl
             rotate_left
             ·
              simp only [Act.put,sa,sb,sc,i64_w,i32_w]
              rfl
             refine pure_ (i:=1) (N:=some 101) (v:=?_) (a':=?_) #[true,true,false,false,false,false,false,false,false,false,false,false,false] rfl rfl (any_of HT_.out (by kernel_rfl)) (fun _ _ _ h=>h) (Or.inl ⟨by rfl,?_⟩) ?_ ?_
             rotate_left
             ·
              intro w'
              go_simp
              with_reducible rfl
             rotate_left
             ·
              simp only [Act.put,sa,sb,sc,i64_w,i32_w]
              rfl
             refine pure_ (i:=2) (N:=some 102) (v:=?_) (a':=?_) #[true,true,true,false,false,false,false,false,false,false,false,false,false] rfl rfl (any_of HT_.out (by kernel_rfl)) (fun _ _ _ h=>h) (Or.inl ⟨by rfl,?_⟩) ?_ ?_
             rotate_left
             ·
              intro w'
              go_simp
              with_reducible rfl
             rotate_left
             ·
              simp only [Act.put,sa,sb,sc,i64_w,i32_w]
              rfl
             refine pure_ (i:=3) (N:=some 103) (v:=?_) (a':=?_) #[true,true,true,true,false,false,false,false,false,false,false,false,false] rfl rfl (any_of HT_.out (by kernel_rfl)) (fun _ _ _ h=>h) (Or.inl ⟨by rfl,?_⟩) ?_ ?_
             rotate_left
             ·
              intro w'
              go_simp
              with_reducible rfl
             rotate_left
             ·
              simp only [Act.put,sa,sb,sc,i64_w,i32_w]
              rfl
             refine pure_ (i:=4) (N:=some 104) (v:=?_) (a':=?_) #[true,true,true,true,true,false,false,false,false,false,false,false,false] rfl rfl (any_of HT_.out (by kernel_rfl)) (fun _ _ _ h=>h) (Or.inl ⟨by rfl,?_⟩) ?_ ?_
             rotate_left
             ·
              intro w'
              go_simp
              with_reducible rfl
             rotate_left
             ·
              simp only [Act.put,sa,sb,sc,i64_w,i32_w]
              rfl
             refine pure_ (i:=5) (N:=some 105) (v:=?_) (a':=?_) #[true,true,true,true,true,true,false,false,false,false,false,false,false] rfl rfl (any_of HT_.out (by kernel_rfl)) (fun _ _ _ h=>h) (Or.inl ⟨by rfl,?_⟩) ?_ ?_
             rotate_left
             ·
              intro w'
              go_simp
              with_reducible rfl
             rotate_left
             ·
              simp only [Act.put,sa,sb,sc,i64_w,i32_w]
              rfl
             refine join_ (σ:=Nat) 2 #[true,true,true,true,true,true,true,true,true,true,true,false,false] (fun s_=>[(106,.tuple #[.agg #[.int .i64 t375,.int .i64 t376],.int .i64 t377]),(15,.pointer (some ⟨s_,0,none⟩)),(99,.tuple #[.agg #[.int .i64 t375,.int .i64 t376],.int .i64 t377]),(107,.agg #[.int .i64 t375,.int .i64 t376]),(108,.int .i64 t377)]) (fun s_ w'=>(Kd.R (Kd.int .i64) 3 w' w.heap.size (fun k_=>some k_≠(.slice (some ad365) t333.length co20 : Value).ownBlock∧some k_≠(.slice (some ad366) t336.length co24 : Value).ownBlock) (.slice A365_0 (rd_L1 t333 0).length c365_0) (rd_L1 t333 0))∧(Kd.R (Kd.int .i64) 3 w' w.heap.size (fun k_=>some k_≠(.slice (some ad365) t333.length co20 : Value).ownBlock∧some k_≠(.slice (some ad366) t336.length co24 : Value).ownBlock) (.slice A366_0 (rd_L1 t336 0).length c366_0) (rd_L1 t336 0))∧(Kd.S (Kd.slice 3 (Kd.int .i64)) 22 w' w.heap.size (fun k_=>some k_≠(.slice (some ad366) t336.length co24 : Value).ownBlock) (.slice (some ad365) t333.length co20) t333)∧(Kd.S (Kd.slice 3 (Kd.int .i64)) 22 w' w.heap.size (fun k_=>some k_≠(.slice (some ad365) t333.length co20 : Value).ownBlock) (.slice (some ad366) t336.length co24) t336)∧(w'.heap[s_]? = some (.cells #[.int .i64 0,.int .i64 0] 36 (0,0)))∧(w.heap.size ≤ s_)∧(w.heap.size ≤ s_)∧(Below w.heap.size w w')) ?_ ?_
             rotate_left
             ·
              intro hCont
              refine two_ (i:=6) (j:=10) (Ni:=some 106) (Nj:=some 15) #[true,true,true,true,true,true,true,false,false,false,false,false,false] #[true,true,true,true,true,true,false,false,false,false,true,false,false] rfl rfl rfl rfl (two_of HT_.out (by kernel_rfl)) (by decide) (by decide) (fun K hK=>?_) (fun K hK=>?_)
              ·
               skip
               refine goes_ Try.func16 (by kernel_rfl) rfl #[.slice (some ad365) y367.length co20,.slice (some ad366) y371.length co24] (by rfl) rfl rfl (by (try simp only [List.map_toArray,List.map_cons,List.map_nil]);first|done|rfl|(simp only [List.length_drop,List.length_take];rfl)|((try rw [KY22.out]);(try rw [KY23.out]);(try rw [KY28.out]);(try rw [KY29.out]);(try rw [KY50.out]);(try rw [KY51.out]);rfl)) ?_
               with_reducible refine (channels_Greatest.calls kj16 _ _ y367 _ _ y371 t375 t376 t377 _ ?side1 ?side2 ?side3 ?side4 A45.out).mono ?_
               (case side1=>repeat (first|exact (by repeat (first|(with_reducible exact HR370.out)|(with_reducible refine ca ?_ _)|(with_reducible refine cb ?_ _)|(with_reducible refine cc ?_)|exact HR370.out))|(with_reducible refine ca ?_ _)|(with_reducible refine cb ?_ _)|(with_reducible refine cc ?_)))
               (case side2=>exact HC370.out)
               (case side3=>repeat (first|exact (by repeat (first|(with_reducible exact HR374.out)|(with_reducible refine ca ?_ _)|(with_reducible refine cb ?_ _)|(with_reducible refine cc ?_)|exact HR374.out))|(with_reducible refine ca ?_ _)|(with_reducible refine cb ?_ _)|(with_reducible refine cc ?_)))
               (case side4=>exact HC374.out)
               rintro e w52 ⟨rfl,hb⟩
               refine ⟨_,rfl,?_⟩
               have n0_:=A_ (Kd.S_below (by (with_reducible repeat (first|apply sa_|apply sd_|apply se_));exact HO_3.out) hb)
               have n1_:=A_ (Kd.S_below (by (with_reducible repeat (first|apply sa_|apply sd_|apply se_));exact HO_4.out) hb)
               have n2_:=A_ (rw_ (by (with_reducible repeat (first|apply ra|apply rb|apply rc));exact HL365_0.out) hb)
               have n3_:=A_ (rw_ (by (with_reducible repeat (first|apply ra|apply rb|apply rc));exact HL366_0.out) hb)
               have n4_:=A_ (cl (by repeat (first|(with_reducible exact HR344.out)|(with_reducible refine ca ?_ _)|(with_reducible refine cb ?_ _)|(with_reducible refine cc ?_)|exact HR344.out)) hb)
               have n5_:=A_ (cl (by repeat (first|(with_reducible exact HR348.out)|(with_reducible refine ca ?_ _)|(with_reducible refine cb ?_ _)|(with_reducible refine cc ?_)|exact HR348.out)) hb)
               have n6_:=A_ (cl (by repeat (first|(with_reducible exact HR356.out)|(with_reducible refine ca ?_ _)|(with_reducible refine cb ?_ _)|(with_reducible refine cc ?_)|exact HR356.out)) hb)
               have n7_:=A_ (cl (by repeat (first|(with_reducible exact HR360.out)|(with_reducible refine ca ?_ _)|(with_reducible refine cb ?_ _)|(with_reducible refine cc ?_)|exact HR360.out)) hb)
               have n8_:=A_ (cl (by repeat (first|(with_reducible exact HR365_0.out)|(with_reducible refine ca ?_ _)|(with_reducible refine cb ?_ _)|(with_reducible refine cc ?_)|exact HR365_0.out)) hb)
               have n9_:=A_ (cl (by repeat (first|(with_reducible exact HR366_0.out)|(with_reducible refine ca ?_ _)|(with_reducible refine cb ?_ _)|(with_reducible refine cc ?_)|exact HR366_0.out)) hb)
               have n10_:=A_ (cl (by repeat (first|(with_reducible exact HR370.out)|(with_reducible refine ca ?_ _)|(with_reducible refine cb ?_ _)|(with_reducible refine cc ?_)|exact HR370.out)) hb)
               have n11_:=A_ (cl (by repeat (first|(with_reducible exact HR374.out)|(with_reducible refine ca ?_ _)|(with_reducible refine cb ?_ _)|(with_reducible refine cc ?_)|exact HR374.out)) hb)
               have n12_:=A_ (below_step (by repeat (first|(with_reducible first|exact HB.out|apply ba|apply bb|apply bc)|exact HB.out)) hb)
               clear HO_3
               clear HO_4
               clear HL365_0
               clear HL366_0
               clear HR344
               clear HR348
               clear HR356
               clear HR360
               clear HR365_0
               clear HR366_0
               clear HR370
               clear HR374
               clear HB
               have HO_3:=n0_
               have HO_4:=n1_
               have HL365_0:=n2_
               have HL366_0:=n3_
               have HR344:=n4_
               have HR348:=n5_
               have HR356:=n6_
               have HR360:=n7_
               have HR365_0:=n8_
               have HR366_0:=n9_
               have HR370:=n10_
               have HR374:=n11_
               have HB:=n12_
               clear n0_ n1_ n2_ n3_ n4_ n5_ n6_ n7_ n8_ n9_ n10_ n11_ n12_
               (try clear hb)
               (try clear hb2)
               (try clear hk)
               (try clear hi)
               refine hK.out _ _ trivial (fun hHeld=>?_)
               clear hK K
               refine norm_ (a':=?_) ?_ ?_
               rotate_left
               ·
                show Act.put _ (some 106) _ = _
                simp only [Act.put,sa,sb,sc,i64_w,i32_w]
                rfl
               refine pure_ (i:=7) (N:=some 99) (v:=?_) (a':=?_) #[true,true,true,true,true,true,true,true,false,false,false,false,false] rfl rfl (any_of HT_.out (by kernel_rfl)) (fun _ _ _ h=>h) (Or.inl ⟨by rfl,?_⟩) ?_ ?_
               rotate_left
               ·
                intro w'
                go_simp
                with_reducible rfl
               rotate_left
               ·
                simp only [Act.put,sa,sb,sc,i64_w,i32_w]
                rfl
               refine pure_ (i:=8) (N:=some 107) (v:=?_) (a':=?_) #[true,true,true,true,true,true,true,true,true,false,false,false,false] rfl rfl (any_of HT_.out (by kernel_rfl)) (fun _ _ _ h=>h) (Or.inl ⟨by rfl,?_⟩) ?_ ?_
               rotate_left
               ·
                intro w'
                go_simp
                with_reducible rfl
               rotate_left
               ·
                simp only [Act.put,sa,sb,sc,i64_w,i32_w]
                rfl
               refine pure_ (i:=9) (N:=some 108) (v:=?_) (a':=?_) #[true,true,true,true,true,true,true,true,true,true,false,false,false] rfl rfl (any_of HT_.out (by kernel_rfl)) (fun _ _ _ h=>h) (Or.inl ⟨by rfl,?_⟩) ?_ ?_
               rotate_left
               ·
                intro w'
                go_simp
                with_reducible rfl
               rotate_left
               ·
                simp only [Act.put,sa,sb,sc,i64_w,i32_w]
                rfl
               refine one_ (i:=10) (N:=some 15) #[true,true,true,true,true,true,true,true,true,true,true,false,false] rfl rfl (one_of HT_.out (by kernel_rfl)) (by decide) (fun K hK=>?_)
               refine box_step ?hg (N:=15) ?hd (cs:=#[.int .i64 0,.int .i64 0]) (t:=36) ?hr ?_;(case hd=>rfl);(case hg=>rfl);(case hr=>first|(go_simp;done)|(go_simp;rfl))
               intro gb378 hg w53 hbox hb
               have n0_:=A_ (Kd.S_below (by (with_reducible repeat (first|apply sa_|apply sd_|apply se_));exact HO_3.out) hb)
               have n1_:=A_ (Kd.S_below (by (with_reducible repeat (first|apply sa_|apply sd_|apply se_));exact HO_4.out) hb)
               have n2_:=A_ (rw_ (by (with_reducible repeat (first|apply ra|apply rb|apply rc));exact HL365_0.out) hb)
               have n3_:=A_ (rw_ (by (with_reducible repeat (first|apply ra|apply rb|apply rc));exact HL366_0.out) hb)
               have n4_:=A_ (cl (by repeat (first|(with_reducible exact HR344.out)|(with_reducible refine ca ?_ _)|(with_reducible refine cb ?_ _)|(with_reducible refine cc ?_)|exact HR344.out)) hb)
               have n5_:=A_ (cl (by repeat (first|(with_reducible exact HR348.out)|(with_reducible refine ca ?_ _)|(with_reducible refine cb ?_ _)|(with_reducible refine cc ?_)|exact HR348.out)) hb)
               have n6_:=A_ (cl (by repeat (first|(with_reducible exact HR356.out)|(with_reducible refine ca ?_ _)|(with_reducible refine cb ?_ _)|(with_reducible refine cc ?_)|exact HR356.out)) hb)
               have n7_:=A_ (cl (by repeat (first|(with_reducible exact HR360.out)|(with_reducible refine ca ?_ _)|(with_reducible refine cb ?_ _)|(with_reducible refine cc ?_)|exact HR360.out)) hb)
               have n8_:=A_ (cl (by repeat (first|(with_reducible exact HR365_0.out)|(with_reducible refine ca ?_ _)|(with_reducible refine cb ?_ _)|(with_reducible refine cc ?_)|exact HR365_0.out)) hb)
               have n9_:=A_ (cl (by repeat (first|(with_reducible exact HR366_0.out)|(with_reducible refine ca ?_ _)|(with_reducible refine cb ?_ _)|(with_reducible refine cc ?_)|exact HR366_0.out)) hb)
               have n10_:=A_ (cl (by repeat (first|(with_reducible exact HR370.out)|(with_reducible refine ca ?_ _)|(with_reducible refine cb ?_ _)|(with_reducible refine cc ?_)|exact HR370.out)) hb)
               have n11_:=A_ (cl (by repeat (first|(with_reducible exact HR374.out)|(with_reducible refine ca ?_ _)|(with_reducible refine cb ?_ _)|(with_reducible refine cc ?_)|exact HR374.out)) hb)
               have n12_:=A_ (below_step (by repeat (first|(with_reducible first|exact HB.out|apply ba|apply bb|apply bc)|exact HB.out)) hb)
               have n13_:=A_ (hbox)
               have n14_:=A_ ((by rw [hg];exact (below_size (by repeat (first|(with_reducible first|exact HB.out|apply ba|apply bb|apply bc)|exact HB.out))) : w.heap.size ≤ gb378))
               have n15_:=A_ ((by rw [hg];exact (below_size (by repeat (first|(with_reducible first|exact HB.out|apply ba|apply bb|apply bc)|exact HB.out))) : w.heap.size ≤ gb378))
               have n16_:=A_ (CF.new (by repeat (first|(with_reducible exact HR344.out)|(with_reducible refine ca ?_ _)|(with_reducible refine cb ?_ _)|(with_reducible refine cc ?_)|exact HR344.out)) hg hb)
               have n17_:=A_ (CF.new (by repeat (first|(with_reducible exact HR348.out)|(with_reducible refine ca ?_ _)|(with_reducible refine cb ?_ _)|(with_reducible refine cc ?_)|exact HR348.out)) hg hb)
               have n18_:=A_ (CF.new (by repeat (first|(with_reducible exact HR356.out)|(with_reducible refine ca ?_ _)|(with_reducible refine cb ?_ _)|(with_reducible refine cc ?_)|exact HR356.out)) hg hb)
               have n19_:=A_ (CF.new (by repeat (first|(with_reducible exact HR360.out)|(with_reducible refine ca ?_ _)|(with_reducible refine cb ?_ _)|(with_reducible refine cc ?_)|exact HR360.out)) hg hb)
               have n20_:=A_ (CF.new (by repeat (first|(with_reducible exact HR365_0.out)|(with_reducible refine ca ?_ _)|(with_reducible refine cb ?_ _)|(with_reducible refine cc ?_)|exact HR365_0.out)) hg hb)
               have n21_:=A_ (CF.new (by repeat (first|(with_reducible exact HR366_0.out)|(with_reducible refine ca ?_ _)|(with_reducible refine cb ?_ _)|(with_reducible refine cc ?_)|exact HR366_0.out)) hg hb)
               have n22_:=A_ (CF.new (by repeat (first|(with_reducible exact HR370.out)|(with_reducible refine ca ?_ _)|(with_reducible refine cb ?_ _)|(with_reducible refine cc ?_)|exact HR370.out)) hg hb)
               have n23_:=A_ (CF.new (by repeat (first|(with_reducible exact HR374.out)|(with_reducible refine ca ?_ _)|(with_reducible refine cb ?_ _)|(with_reducible refine cc ?_)|exact HR374.out)) hg hb)
               clear HO_3
               clear HO_4
               clear HL365_0
               clear HL366_0
               clear HR344
               clear HR348
               clear HR356
               clear HR360
               clear HR365_0
               clear HR366_0
               clear HR370
               clear HR374
               clear HB
               have HO_3:=n0_
               have HO_4:=n1_
               have HL365_0:=n2_
               have HL366_0:=n3_
               have HR344:=n4_
               have HR348:=n5_
               have HR356:=n6_
               have HR360:=n7_
               have HR365_0:=n8_
               have HR366_0:=n9_
               have HR370:=n10_
               have HR374:=n11_
               have HB:=n12_
               have BK378:=n13_
               have GW378:=n14_
               have GE378:=n15_
               have HZ344_378:=n16_
               have HZ348_378:=n17_
               have HZ356_378:=n18_
               have HZ360_378:=n19_
               have HZ365_0_378:=n20_
               have HZ366_0_378:=n21_
               have HZ370_378:=n22_
               have HZ374_378:=n23_
               clear n0_ n1_ n2_ n3_ n4_ n5_ n6_ n7_ n8_ n9_ n10_ n11_ n12_ n13_ n14_ n15_ n16_ n17_ n18_ n19_ n20_ n21_ n22_ n23_
               clear hb hbox hg
               refine hK.out _ _ trivial (fun hHeld=>?_)
               clear hK K
               refine norm_ (a':=?_) ?_ ?_
               rotate_left
               ·
                show Act.put _ (some 15) _ = _
                simp only [Act.put,sa,sb,sc,i64_w,i32_w]
                rfl
               exact norm_ (by simp only [putAll,Act.put,List.setIfInBounds_toArray,List.set_cons_zero,List.set_cons_succ]) (hCont (gb378) _ ⟨(by (with_reducible repeat (first|apply ra|apply rb|apply rc));exact rm HL365_0.out (fun _ hk=>⟨hk.2,hk.1⟩)),(by (with_reducible repeat (first|apply ra|apply rb|apply rc));exact HL366_0.out),(by (with_reducible repeat (first|apply sa_|apply sd_|apply se_));exact HO_3.out),(by (with_reducible repeat (first|apply sa_|apply sd_|apply se_));exact HO_4.out),(by (with_reducible repeat (first|refine blk_drewN ?_ _|refine blk_drew ?_|refine blk_alloc ?_ _));exact BK378.out),GW378.out,GE378.out,(by repeat (first|(with_reducible first|exact HB.out|apply ba|apply bb|apply bc|refine below_set ?_ GE378.out)|exact HB.out))⟩)
              ·
               skip
               refine box_step ?hg (N:=15) ?hd (cs:=#[.int .i64 0,.int .i64 0]) (t:=36) ?hr ?_;(case hd=>rfl);(case hg=>rfl);(case hr=>first|(go_simp;done)|(go_simp;rfl))
               intro gb378 hg w52 hbox hb
               have n0_:=A_ (Kd.S_below (by (with_reducible repeat (first|apply sa_|apply sd_|apply se_));exact HO_3.out) hb)
               have n1_:=A_ (Kd.S_below (by (with_reducible repeat (first|apply sa_|apply sd_|apply se_));exact HO_4.out) hb)
               have n2_:=A_ (rw_ (by (with_reducible repeat (first|apply ra|apply rb|apply rc));exact HL365_0.out) hb)
               have n3_:=A_ (rw_ (by (with_reducible repeat (first|apply ra|apply rb|apply rc));exact HL366_0.out) hb)
               have n4_:=A_ (cl (by repeat (first|(with_reducible exact HR344.out)|(with_reducible refine ca ?_ _)|(with_reducible refine cb ?_ _)|(with_reducible refine cc ?_)|exact HR344.out)) hb)
               have n5_:=A_ (cl (by repeat (first|(with_reducible exact HR348.out)|(with_reducible refine ca ?_ _)|(with_reducible refine cb ?_ _)|(with_reducible refine cc ?_)|exact HR348.out)) hb)
               have n6_:=A_ (cl (by repeat (first|(with_reducible exact HR356.out)|(with_reducible refine ca ?_ _)|(with_reducible refine cb ?_ _)|(with_reducible refine cc ?_)|exact HR356.out)) hb)
               have n7_:=A_ (cl (by repeat (first|(with_reducible exact HR360.out)|(with_reducible refine ca ?_ _)|(with_reducible refine cb ?_ _)|(with_reducible refine cc ?_)|exact HR360.out)) hb)
               have n8_:=A_ (cl (by repeat (first|(with_reducible exact HR365_0.out)|(with_reducible refine ca ?_ _)|(with_reducible refine cb ?_ _)|(with_reducible refine cc ?_)|exact HR365_0.out)) hb)
               have n9_:=A_ (cl (by repeat (first|(with_reducible exact HR366_0.out)|(with_reducible refine ca ?_ _)|(with_reducible refine cb ?_ _)|(with_reducible refine cc ?_)|exact HR366_0.out)) hb)
               have n10_:=A_ (cl (by repeat (first|(with_reducible exact HR370.out)|(with_reducible refine ca ?_ _)|(with_reducible refine cb ?_ _)|(with_reducible refine cc ?_)|exact HR370.out)) hb)
               have n11_:=A_ (cl (by repeat (first|(with_reducible exact HR374.out)|(with_reducible refine ca ?_ _)|(with_reducible refine cb ?_ _)|(with_reducible refine cc ?_)|exact HR374.out)) hb)
               have n12_:=A_ (below_step (by repeat (first|(with_reducible first|exact HB.out|apply ba|apply bb|apply bc)|exact HB.out)) hb)
               have n13_:=A_ (hbox)
               have n14_:=A_ ((by rw [hg];exact (below_size (by repeat (first|(with_reducible first|exact HB.out|apply ba|apply bb|apply bc)|exact HB.out))) : w.heap.size ≤ gb378))
               have n15_:=A_ ((by rw [hg];exact (below_size (by repeat (first|(with_reducible first|exact HB.out|apply ba|apply bb|apply bc)|exact HB.out))) : w.heap.size ≤ gb378))
               have n16_:=A_ (CF.new (by repeat (first|(with_reducible exact HR344.out)|(with_reducible refine ca ?_ _)|(with_reducible refine cb ?_ _)|(with_reducible refine cc ?_)|exact HR344.out)) hg hb)
               have n17_:=A_ (CF.new (by repeat (first|(with_reducible exact HR348.out)|(with_reducible refine ca ?_ _)|(with_reducible refine cb ?_ _)|(with_reducible refine cc ?_)|exact HR348.out)) hg hb)
               have n18_:=A_ (CF.new (by repeat (first|(with_reducible exact HR356.out)|(with_reducible refine ca ?_ _)|(with_reducible refine cb ?_ _)|(with_reducible refine cc ?_)|exact HR356.out)) hg hb)
               have n19_:=A_ (CF.new (by repeat (first|(with_reducible exact HR360.out)|(with_reducible refine ca ?_ _)|(with_reducible refine cb ?_ _)|(with_reducible refine cc ?_)|exact HR360.out)) hg hb)
               have n20_:=A_ (CF.new (by repeat (first|(with_reducible exact HR365_0.out)|(with_reducible refine ca ?_ _)|(with_reducible refine cb ?_ _)|(with_reducible refine cc ?_)|exact HR365_0.out)) hg hb)
               have n21_:=A_ (CF.new (by repeat (first|(with_reducible exact HR366_0.out)|(with_reducible refine ca ?_ _)|(with_reducible refine cb ?_ _)|(with_reducible refine cc ?_)|exact HR366_0.out)) hg hb)
               have n22_:=A_ (CF.new (by repeat (first|(with_reducible exact HR370.out)|(with_reducible refine ca ?_ _)|(with_reducible refine cb ?_ _)|(with_reducible refine cc ?_)|exact HR370.out)) hg hb)
               have n23_:=A_ (CF.new (by repeat (first|(with_reducible exact HR374.out)|(with_reducible refine ca ?_ _)|(with_reducible refine cb ?_ _)|(with_reducible refine cc ?_)|exact HR374.out)) hg hb)
               clear HO_3
               clear HO_4
               clear HL365_0
               clear HL366_0
               clear HR344
               clear HR348
               clear HR356
               clear HR360
               clear HR365_0
               clear HR366_0
               clear HR370
               clear HR374
               clear HB
               have HO_3:=n0_
               have HO_4:=n1_
               have HL365_0:=n2_
               have HL366_0:=n3_
               have HR344:=n4_
               have HR348:=n5_
               have HR356:=n6_
               have HR360:=n7_
               have HR365_0:=n8_
               have HR366_0:=n9_
               have HR370:=n10_
               have HR374:=n11_
               have HB:=n12_
               have BK378:=n13_
               have GW378:=n14_
               have GE378:=n15_
               have HZ344_378:=n16_
               have HZ348_378:=n17_
               have HZ356_378:=n18_
               have HZ360_378:=n19_
               have HZ365_0_378:=n20_
               have HZ366_0_378:=n21_
               have HZ370_378:=n22_
               have HZ374_378:=n23_
               clear n0_ n1_ n2_ n3_ n4_ n5_ n6_ n7_ n8_ n9_ n10_ n11_ n12_ n13_ n14_ n15_ n16_ n17_ n18_ n19_ n20_ n21_ n22_ n23_
               clear hb hbox hg
               refine hK.out _ _ trivial (fun hHeld=>?_)
               clear hK K
               refine norm_ (a':=?_) ?_ ?_
               rotate_left
               ·
                show Act.put _ (some 15) _ = _
                simp only [Act.put,sa,sb,sc,i64_w,i32_w]
                rfl
               refine one_ (i:=6) (N:=some 106) #[true,true,true,true,true,true,true,false,false,false,true,false,false] rfl rfl (one_of HT_.out (by kernel_rfl)) (by decide) (fun K hK=>?_)
               refine goes_ Try.func16 (by kernel_rfl) rfl #[.slice (some ad365) y367.length co20,.slice (some ad366) y371.length co24] (by rfl) rfl rfl (by (try simp only [List.map_toArray,List.map_cons,List.map_nil]);first|done|rfl|(simp only [List.length_drop,List.length_take];rfl)|((try rw [KY22.out]);(try rw [KY23.out]);(try rw [KY28.out]);(try rw [KY29.out]);(try rw [KY50.out]);(try rw [KY51.out]);rfl)) ?_
               with_reducible refine (channels_Greatest.calls kj16 _ _ y367 _ _ y371 t375 t376 t377 _ ?side1 ?side2 ?side3 ?side4 A45.out).mono ?_
               (case side1=>repeat (first|exact (by repeat (first|(with_reducible exact HR370.out)|(with_reducible refine ca ?_ _)|(with_reducible refine cb ?_ _)|(with_reducible refine cc ?_)|exact HR370.out))|(with_reducible refine ca ?_ _)|(with_reducible refine cb ?_ _)|(with_reducible refine cc ?_)))
               (case side2=>exact HC370.out)
               (case side3=>repeat (first|exact (by repeat (first|(with_reducible exact HR374.out)|(with_reducible refine ca ?_ _)|(with_reducible refine cb ?_ _)|(with_reducible refine cc ?_)|exact HR374.out))|(with_reducible refine ca ?_ _)|(with_reducible refine cb ?_ _)|(with_reducible refine cc ?_)))
               (case side4=>exact HC374.out)
               rintro e w53 ⟨rfl,hb⟩
               refine ⟨_,rfl,?_⟩
               have n0_:=A_ (Kd.S_below (by (with_reducible repeat (first|apply sa_|apply sd_|apply se_));exact HO_3.out) hb)
               have n1_:=A_ (Kd.S_below (by (with_reducible repeat (first|apply sa_|apply sd_|apply se_));exact HO_4.out) hb)
               have n2_:=A_ (rw_ (by (with_reducible repeat (first|apply ra|apply rb|apply rc));exact HL365_0.out) hb)
               have n3_:=A_ (rw_ (by (with_reducible repeat (first|apply ra|apply rb|apply rc));exact HL366_0.out) hb)
               have n4_:=A_ (cl (by repeat (first|(with_reducible exact HR344.out)|(with_reducible refine ca ?_ _)|(with_reducible refine cb ?_ _)|(with_reducible refine cc ?_)|exact HR344.out)) hb)
               have n5_:=A_ (cl (by repeat (first|(with_reducible exact HR348.out)|(with_reducible refine ca ?_ _)|(with_reducible refine cb ?_ _)|(with_reducible refine cc ?_)|exact HR348.out)) hb)
               have n6_:=A_ (cl (by repeat (first|(with_reducible exact HR356.out)|(with_reducible refine ca ?_ _)|(with_reducible refine cb ?_ _)|(with_reducible refine cc ?_)|exact HR356.out)) hb)
               have n7_:=A_ (cl (by repeat (first|(with_reducible exact HR360.out)|(with_reducible refine ca ?_ _)|(with_reducible refine cb ?_ _)|(with_reducible refine cc ?_)|exact HR360.out)) hb)
               have n8_:=A_ (cl (by repeat (first|(with_reducible exact HR365_0.out)|(with_reducible refine ca ?_ _)|(with_reducible refine cb ?_ _)|(with_reducible refine cc ?_)|exact HR365_0.out)) hb)
               have n9_:=A_ (cl (by repeat (first|(with_reducible exact HR366_0.out)|(with_reducible refine ca ?_ _)|(with_reducible refine cb ?_ _)|(with_reducible refine cc ?_)|exact HR366_0.out)) hb)
               have n10_:=A_ (cl (by repeat (first|(with_reducible exact HR370.out)|(with_reducible refine ca ?_ _)|(with_reducible refine cb ?_ _)|(with_reducible refine cc ?_)|exact HR370.out)) hb)
               have n11_:=A_ (cl (by repeat (first|(with_reducible exact HR374.out)|(with_reducible refine ca ?_ _)|(with_reducible refine cb ?_ _)|(with_reducible refine cc ?_)|exact HR374.out)) hb)
               have n12_:=A_ (blk_below (g:=gb378) (o:=.cells #[.int .i64 0,.int .i64 0] 36 (0,0)) (by (with_reducible repeat (first|refine blk_drewN ?_ _|refine blk_drew ?_|refine blk_alloc ?_ _));exact BK378.out) hb)
               have n13_:=A_ (below_step (by repeat (first|(with_reducible first|exact HB.out|apply ba|apply bb|apply bc|refine below_set ?_ GE378.out)|exact HB.out)) hb)
               clear HO_3
               clear HO_4
               clear HL365_0
               clear HL366_0
               clear HR344
               clear HR348
               clear HR356
               clear HR360
               clear HR365_0
               clear HR366_0
               clear HR370
               clear HR374
               clear BK378
               clear HB
               have HO_3:=n0_
               have HO_4:=n1_
               have HL365_0:=n2_
               have HL366_0:=n3_
               have HR344:=n4_
               have HR348:=n5_
               have HR356:=n6_
               have HR360:=n7_
               have HR365_0:=n8_
               have HR366_0:=n9_
               have HR370:=n10_
               have HR374:=n11_
               have BK378:=n12_
               have HB:=n13_
               clear n0_ n1_ n2_ n3_ n4_ n5_ n6_ n7_ n8_ n9_ n10_ n11_ n12_ n13_
               (try clear hb)
               (try clear hb2)
               (try clear hk)
               (try clear hi)
               refine hK.out _ _ trivial (fun hHeld=>?_)
               clear hK K
               refine norm_ (a':=?_) ?_ ?_
               rotate_left
               ·
                show Act.put _ (some 106) _ = _
                simp only [Act.put,sa,sb,sc,i64_w,i32_w]
                rfl
               refine pure_ (i:=7) (N:=some 99) (v:=?_) (a':=?_) #[true,true,true,true,true,true,true,true,false,false,true,false,false] rfl rfl (any_of HT_.out (by kernel_rfl)) (fun _ _ _ h=>h) (Or.inl ⟨by rfl,?_⟩) ?_ ?_
               rotate_left
               ·
                intro w'
                go_simp
                with_reducible rfl
               rotate_left
               ·
                simp only [Act.put,sa,sb,sc,i64_w,i32_w]
                rfl
               refine pure_ (i:=8) (N:=some 107) (v:=?_) (a':=?_) #[true,true,true,true,true,true,true,true,true,false,true,false,false] rfl rfl (any_of HT_.out (by kernel_rfl)) (fun _ _ _ h=>h) (Or.inl ⟨by rfl,?_⟩) ?_ ?_
               rotate_left
               ·
                intro w'
                go_simp
                with_reducible rfl
               rotate_left
               ·
                simp only [Act.put,sa,sb,sc,i64_w,i32_w]
                rfl
               refine pure_ (i:=9) (N:=some 108) (v:=?_) (a':=?_) #[true,true,true,true,true,true,true,true,true,true,true,false,false] rfl rfl (any_of HT_.out (by kernel_rfl)) (fun _ _ _ h=>h) (Or.inl ⟨by rfl,?_⟩) ?_ ?_
               rotate_left
               ·
                intro w'
                go_simp
                with_reducible rfl
               rotate_left
               ·
                simp only [Act.put,sa,sb,sc,i64_w,i32_w]
                rfl
               exact norm_ (by simp only [putAll,Act.put,List.setIfInBounds_toArray,List.set_cons_zero,List.set_cons_succ]) (hCont (gb378) _ ⟨(by (with_reducible repeat (first|apply ra|apply rb|apply rc));exact rm HL365_0.out (fun _ hk=>⟨hk.2,hk.1⟩)),(by (with_reducible repeat (first|apply ra|apply rb|apply rc));exact HL366_0.out),(by (with_reducible repeat (first|apply sa_|apply sd_|apply se_));exact HO_3.out),(by (with_reducible repeat (first|apply sa_|apply sd_|apply se_));exact HO_4.out),(by (with_reducible repeat (first|refine blk_drewN ?_ _|refine blk_drew ?_|refine blk_alloc ?_ _));exact BK378.out),GW378.out,GE378.out,(by repeat (first|(with_reducible first|exact HB.out|apply ba|apply bb|apply bc|refine below_set ?_ GE378.out)|exact HB.out))⟩)
             rintro gb378 w54 ⟨h0_,h1_,h2_,h3_,h4_,h5_,h6_,h7_⟩
             have n0_ : Aside0 (Kd.R (Kd.int .i64) 3 w54 w.heap.size (fun k_=>some k_≠(.slice (some ad365) t333.length co20 : Value).ownBlock∧some k_≠(.slice (some ad366) t336.length co24 : Value).ownBlock) (.slice A365_0 (rd_L1 t333 0).length c365_0) (rd_L1 t333 0)):=⟨h0_⟩
             have n1_ : Aside0 (Kd.R (Kd.int .i64) 3 w54 w.heap.size (fun k_=>some k_≠(.slice (some ad365) t333.length co20 : Value).ownBlock∧some k_≠(.slice (some ad366) t336.length co24 : Value).ownBlock) (.slice A366_0 (rd_L1 t336 0).length c366_0) (rd_L1 t336 0)):=⟨h1_⟩
             have n2_ : Aside0 (Kd.S (Kd.slice 3 (Kd.int .i64)) 22 w54 w.heap.size (fun k_=>some k_≠(.slice (some ad366) t336.length co24 : Value).ownBlock) (.slice (some ad365) t333.length co20) t333):=⟨h2_⟩
             have n3_ : Aside0 (Kd.S (Kd.slice 3 (Kd.int .i64)) 22 w54 w.heap.size (fun k_=>some k_≠(.slice (some ad365) t333.length co20 : Value).ownBlock) (.slice (some ad366) t336.length co24) t336):=⟨h3_⟩
             have n4_ : Aside0 (w54.heap[gb378]? = some (.cells #[.int .i64 0,.int .i64 0] 36 (0,0))):=⟨h4_⟩
             have n5_ : Aside0 (w.heap.size ≤ gb378):=⟨h5_⟩
             have n6_ : Aside0 (w.heap.size ≤ gb378):=⟨h6_⟩
             have n7_ : Aside0 (Below w.heap.size w w54):=⟨h7_⟩
             clear HO_3
             clear HO_4
             clear HL365_0
             clear HL366_0
             clear HR344
             clear HR348
             clear HR356
             clear HR360
             clear HR365_0
             clear HR366_0
             clear HB
             clear h0_ h1_ h2_ h3_ h4_ h5_ h6_ h7_
             have HL365_0:=n0_
             have HL366_0:=n1_
             have HO_3:=n2_
             have HO_4:=n3_
             have BK378:=n4_
             have GW378:=n5_
             have GE378:=n6_
             have HB:=n7_
             clear n0_ n1_ n2_ n3_ n4_ n5_ n6_ n7_
             have hHeld:=trivial
             have HR370:=A_ (show Kd.C (Kd.slice 3 (Kd.int .i64)) w54 (some ad365) y367.length y367 from by rw [Ny367.out];exact Kd.C_take (m:=(ji4 : Int).toNat) ((Kd.S_reads' (HO_3.out)).2.2) KL50.out)
             have HR374:=A_ (show Kd.C (Kd.slice 3 (Kd.int .i64)) w54 (some ad366) y371.length y371 from by rw [Ny371.out];exact Kd.C_take (m:=(ji4 : Int).toNat) ((Kd.S_reads' (HO_4.out)).2.2) KL51.out)
             refine norm_ (a':=?_) ?_ ?_
             rotate_left
             ·
              simp only [putAll,Act.put,List.setIfInBounds_toArray,List.set_cons_zero,List.set_cons_succ]
              rfl
             refine one_ (i:=11) (N:=none) #[true,true,true,true,true,true,true,true,true,true,true,true,false] rfl rfl (one_of HT_.out (by kernel_rfl)) (by decide) (fun K hK=>?_)
             have hs55 : w54.cell? ⟨gb378,0,none⟩ = some (.int .i64 0):=(blk_cell BK378.out 0).trans rfl
             have hfs55:=blk_frozen BK378.out 0
             have hs56 : w54.cell? ⟨gb378,1,none⟩ = some (.int .i64 0):=(blk_cell BK378.out 1).trans rfl
             have hfs56:=blk_frozen BK378.out 1
             refine skip_ (w1:=?_) (by rfl) rfl ?_ ?_
             rotate_left
             ·
              go_simp
              rfl
             refine hK.out _ _ trivial (fun hHeld=>?_)
             clear hK K
             refine pure_ (i:=12) (N:=some 16) (v:=?_) (a':=?_) #[true,true,true,true,true,true,true,true,true,true,true,true,true] rfl rfl (any_of HT_.out (by kernel_rfl)) (fun _ _ _ h=>h) (Or.inl ⟨by rfl,?_⟩) ?_ ?_
             rotate_left
             ·
              intro w'
              go_simp
              with_reducible rfl
             rotate_left
             ·
              simp only [Act.put,sa,sb,sc,i64_w,i32_w]
              rfl
             refine done_ (done_of HT_.out (by kernel_rfl)) ?_
             go_upto_region 12 with (first|((with_reducible refine gate_callee (f:=16) rfl ?_);refine goesL_ (some 112) rfl rfl Try.func16 (by kernel_rfl) rfl #[.slice (some ad365) t333.length co20,.slice (some ad366) t336.length co24] rfl (by (try simp only [List.map_toArray,List.map_cons,List.map_nil]);first|done|rfl|(simp only [List.length_drop,List.length_take];rfl)|((try rw [KY22.out]);(try rw [KY23.out]);(try rw [KY28.out]);(try rw [KY29.out]);(try rw [KY50.out]);(try rw [KY51.out]);rfl)) ?_;(with_reducible refine (channels_Greatest.calls kj16 _ _ t333 _ _ t336 t379 t380 t381 _ ?side1 ?side2 ?side3 ?side4 A46.out).mono ?_);(case side1=>refine (Kd.S_reads' (e:=22) (base:=w.heap.size) (ok:=fun k_=>some k_≠(.slice (some ad366) t336.length co24 : Value).ownBlock) (n:=t333.length) (c:=co20) ?_).2.2;exact (by (with_reducible repeat (first|apply sa_|apply sd_|apply se_));exact (Kd.S_mono (Kd.S_far (p:=⟨gb378,1,none⟩) (Kd.S_far (p:=⟨gb378,0,none⟩) (Kd.S_types HO_3.out BK378.out (by decide)) (fun _ hk=>hk.2) (.int .i64 t375)) (fun _ hk=>hk.2) (.int .i64 t376)) (fun _ h_=>h_.1))));(case side2=>exact (Kd.S_reads' HO_3.out).2.1);(case side3=>refine (Kd.S_reads' (e:=22) (base:=w.heap.size) (ok:=fun k_=>some k_≠(.slice (some ad365) t333.length co20 : Value).ownBlock) (n:=t336.length) (c:=co24) ?_).2.2;exact (by (with_reducible repeat (first|apply sa_|apply sd_|apply se_));exact (Kd.S_mono (Kd.S_far (p:=⟨gb378,1,none⟩) (Kd.S_far (p:=⟨gb378,0,none⟩) (Kd.S_types HO_4.out BK378.out (by decide)) (fun _ hk=>hk.2) (.int .i64 t375)) (fun _ hk=>hk.2) (.int .i64 t376)) (fun _ h_=>h_.1))));(case side4=>exact (Kd.S_reads' HO_4.out).2.1);rintro e w57 ⟨rfl,hb⟩;refine ⟨_,rfl,?_⟩;have n0_:=A_ (Kd.S_below (by (with_reducible repeat (first|apply sa_|apply sd_|apply se_));exact (Kd.S_mono (Kd.S_far (p:=⟨gb378,1,none⟩) (Kd.S_far (p:=⟨gb378,0,none⟩) (Kd.S_types HO_3.out BK378.out (by decide)) (fun _ hk=>hk.2) (.int .i64 t375)) (fun _ hk=>hk.2) (.int .i64 t376)) (fun _ h_=>h_.1))) hb);have n1_:=A_ (Kd.S_below (by (with_reducible repeat (first|apply sa_|apply sd_|apply se_));exact (Kd.S_mono (Kd.S_far (p:=⟨gb378,1,none⟩) (Kd.S_far (p:=⟨gb378,0,none⟩) (Kd.S_types HO_4.out BK378.out (by decide)) (fun _ hk=>hk.2) (.int .i64 t375)) (fun _ hk=>hk.2) (.int .i64 t376)) (fun _ h_=>h_.1))) hb);have n2_:=A_ (rw_ (by (with_reducible repeat (first|apply ra|apply rb|apply rc));exact (rm (Kd.R_far (p:=⟨gb378,1,none⟩) (Kd.R_far (p:=⟨gb378,0,none⟩) (Kd.R_types HL365_0.out BK378.out (by decide)) (fun _ hk=>hk.2) (.int .i64 t375)) (fun _ hk=>hk.2) (.int .i64 t376)) (fun _ h_=>h_.1))) hb);have n3_:=A_ (rw_ (by (with_reducible repeat (first|apply ra|apply rb|apply rc));exact (rm (Kd.R_far (p:=⟨gb378,1,none⟩) (Kd.R_far (p:=⟨gb378,0,none⟩) (Kd.R_types HL366_0.out BK378.out (by decide)) (fun _ hk=>hk.2) (.int .i64 t375)) (fun _ hk=>hk.2) (.int .i64 t376)) (fun _ h_=>h_.1))) hb);have n4_:=A_ (blk_below (g:=gb378) (o:=.cells #[.int .i64 t375,.int .i64 t376] 36 (0,0)) (by (with_reducible repeat (first|refine blk_drewN ?_ _|refine blk_drew ?_|refine blk_alloc ?_ _));refine blk_put (cs:=#[.int .i64 t375,.int .i64 0]) ?_ 1 _ rfl;(with_reducible repeat (first|refine blk_drewN ?_ _|refine blk_drew ?_|refine blk_alloc ?_ _));refine blk_put (cs:=#[.int .i64 0,.int .i64 0]) ?_ 0 _ rfl;(with_reducible repeat (first|refine blk_drewN ?_ _|refine blk_drew ?_|refine blk_alloc ?_ _));exact BK378.out) hb);have n5_:=A_ (below_step (by repeat (first|(with_reducible first|exact HB.out|apply ba|apply bb|apply bc|refine below_set ?_ GE378.out)|exact HB.out)) hb);clear HO_3;clear HO_4;clear HL365_0;clear HL366_0;clear BK378;clear HB;have HO_3:=n0_;have HO_4:=n1_;have HL365_0:=n2_;have HL366_0:=n3_;have BK378:=n4_;have HB:=n5_;clear n0_ n1_ n2_ n3_ n4_ n5_;(try clear hb);(try clear hb2);(try clear hk);(try clear hi))|((with_reducible refine gate_dst (N:=17) rfl ?_);refine box_event ?hg (N:=17) ?hd (cs:=#[.int .i64 0,.int .i64 0]) (t:=36) ?hr ?_;(case hd=>rfl);(case hg=>rfl);(case hr=>first|(go_simp;done)|(go_simp;rfl));intro gb382 hg w58 hbox hb;have n0_:=A_ (Kd.S_below (by (with_reducible repeat (first|apply sa_|apply sd_|apply se_));exact HO_3.out) hb);have n1_:=A_ (Kd.S_below (by (with_reducible repeat (first|apply sa_|apply sd_|apply se_));exact HO_4.out) hb);have n2_:=A_ (rw_ (by (with_reducible repeat (first|apply ra|apply rb|apply rc));exact HL365_0.out) hb);have n3_:=A_ (rw_ (by (with_reducible repeat (first|apply ra|apply rb|apply rc));exact HL366_0.out) hb);have n4_:=A_ (blk_below (g:=gb378) (o:=.cells #[.int .i64 t375,.int .i64 t376] 36 (0,0)) (by (with_reducible repeat (first|refine blk_drewN ?_ _|refine blk_drew ?_|refine blk_alloc ?_ _));exact BK378.out) hb);have n5_:=A_ (below_step (by repeat (first|(with_reducible first|exact HB.out|apply ba|apply bb|apply bc|refine below_set ?_ GE378.out)|exact HB.out)) hb);have n6_:=A_ (hbox);have n7_:=A_ ((by rw [hg];exact (below_size (by repeat (first|(with_reducible first|exact HB.out|apply ba|apply bb|apply bc|refine below_set ?_ GE378.out)|exact HB.out))) : w.heap.size ≤ gb382));have n8_:=A_ ((by rw [hg];exact (below_size (by repeat (first|(with_reducible first|exact HB.out|apply ba|apply bb|apply bc|refine below_set ?_ GE378.out)|exact HB.out))) : w.heap.size ≤ gb382));have n9_:=A_ ((by rw [hg];exact Nat.ne_of_lt (blk_lt (g:=gb378) (o:=.cells #[.int .i64 t375,.int .i64 t376] 36 (0,0)) (by (with_reducible repeat (first|refine blk_drewN ?_ _|refine blk_drew ?_|refine blk_alloc ?_ _));exact BK378.out)) : gb378≠gb382));have n10_:=A_ ((by rw [hg];exact Nat.ne_of_gt (blk_lt (g:=gb378) (o:=.cells #[.int .i64 t375,.int .i64 t376] 36 (0,0)) (by (with_reducible repeat (first|refine blk_drewN ?_ _|refine blk_drew ?_|refine blk_alloc ?_ _));exact BK378.out)) : gb382≠gb378));clear HO_3;clear HO_4;clear HL365_0;clear HL366_0;clear BK378;clear HB;have HO_3:=n0_;have HO_4:=n1_;have HL365_0:=n2_;have HL366_0:=n3_;have BK378:=n4_;have HB:=n5_;have BK382:=n6_;have GW382:=n7_;have GE382:=n8_;have NB378_382:=n9_;have NB382_378:=n10_;clear n0_ n1_ n2_ n3_ n4_ n5_ n6_ n7_ n8_ n9_ n10_;clear hb hbox hg;have hnb59:=NB382_378.out;have hnc59:=NB378_382.out;have hcz60_0 : w58.cell? ⟨gb382,0,none⟩ = some (.int .i64 0):=(blk_cell BK382.out 0).trans rfl;have hcz60_1 : w58.cell? ⟨gb382,1,none⟩ = some (.int .i64 0):=(blk_cell BK382.out 1).trans rfl;have hfz60_0:=blk_frozen BK382.out 0;have hfz60_1:=blk_frozen BK382.out 1))
             (try simp only [Act.put,List.setIfInBounds_toArray,List.set_cons_zero,List.set_cons_succ])
             have H:=HC47.out
             clear HC47
             by_cases c61 : t377 = 0
             ·
              rw [if_pos c61] at H
              have c61b0 : (t377 == 0) = true:=beq_iff_eq.mpr c61
              have c61b1 : (t377 != 0) = false:=bne_eq_false_iff_eq.mpr c61
              clear c61
              (first|rw [c61b0]|(simp only [i64_w,i32_w];rw [c61b0])|skip)
              by_cases c62 : t381 = 0
              ·
               rw [if_pos c62] at H
               have c62b0 : (t381 == 0) = true:=beq_iff_eq.mpr c62
               have c62b1 : (t381 != 0) = false:=bne_eq_false_iff_eq.mpr c62
               clear c62
               replace H:=Option.bind_eq_some_iff.mp H
               obtain ⟨t383,A630,H⟩:=H
               replace H : (if t383 ≤ 0 then ((shapesearchlaw16_awake.f kj16).bind fun t384=>(some t384)) else (some false)) = some r:=H
               have A63:=A_ A630
               clear A630
               by_cases c64 : t383 ≤ 0
               ·
                rw [if_pos c64] at H
                have c64b0 : decide (t383 ≤ 0) = true:=decide_eq_true c64
                clear c64
                replace H:=Option.bind_eq_some_iff.mp H
                obtain ⟨t384,A650,H⟩:=H
                replace H : (some t384) = some r:=H
                have A65:=A_ A650
                clear A650
                obtain rfl:=Option.some.inj H
                have hnb66:=NB378_382.out
                have hnc66:=NB382_378.out
                have hcz67_0 : w58.cell? ⟨gb378,0,none⟩ = some (.int .i64 t375):=(blk_cell BK378.out 0).trans rfl
                have hcz67_1 : w58.cell? ⟨gb378,1,none⟩ = some (.int .i64 t376):=(blk_cell BK378.out 1).trans rfl
                have hfz67_0:=blk_frozen BK378.out 0
                have hfz67_1:=blk_frozen BK378.out 1
                have hcz68_0 : w58.cell? ⟨gb382,0,none⟩ = some (.int .i64 0):=(blk_cell BK382.out 0).trans rfl
                have hcz68_1 : w58.cell? ⟨gb382,1,none⟩ = some (.int .i64 0):=(blk_cell BK382.out 1).trans rfl
                have hfz68_0:=blk_frozen BK382.out 0
                have hfz68_1:=blk_frozen BK382.out 1
                go_wp2_with (first|(go_at_call 17;(with_reducible refine (shapesearchref01_Cmp.calls kj16 t375 t376 t379 t380 t383 _ A63.out).mono ?_);rintro e w69 ⟨rfl,hb⟩;have n0_:=A_ (Kd.S_below (by (with_reducible repeat (first|apply sa_|apply sd_|apply se_));exact (Kd.S_mono (Kd.S_far (p:=⟨gb382,1,none⟩) (Kd.S_far (p:=⟨gb382,0,none⟩) (Kd.S_types HO_3.out BK382.out (by decide)) (fun _ hk=>hk.2) (.int .i64 t379)) (fun _ hk=>hk.2) (.int .i64 t380)) (fun _ h_=>h_.1))) hb);have n1_:=A_ (Kd.S_below (by (with_reducible repeat (first|apply sa_|apply sd_|apply se_));exact (Kd.S_mono (Kd.S_far (p:=⟨gb382,1,none⟩) (Kd.S_far (p:=⟨gb382,0,none⟩) (Kd.S_types HO_4.out BK382.out (by decide)) (fun _ hk=>hk.2) (.int .i64 t379)) (fun _ hk=>hk.2) (.int .i64 t380)) (fun _ h_=>h_.1))) hb);have n2_:=A_ (rw_ (by (with_reducible repeat (first|apply ra|apply rb|apply rc));exact (rm (Kd.R_far (p:=⟨gb382,1,none⟩) (Kd.R_far (p:=⟨gb382,0,none⟩) (Kd.R_types HL365_0.out BK382.out (by decide)) (fun _ hk=>hk.2) (.int .i64 t379)) (fun _ hk=>hk.2) (.int .i64 t380)) (fun _ h_=>h_.1))) hb);have n3_:=A_ (rw_ (by (with_reducible repeat (first|apply ra|apply rb|apply rc));exact (rm (Kd.R_far (p:=⟨gb382,1,none⟩) (Kd.R_far (p:=⟨gb382,0,none⟩) (Kd.R_types HL366_0.out BK382.out (by decide)) (fun _ hk=>hk.2) (.int .i64 t379)) (fun _ hk=>hk.2) (.int .i64 t380)) (fun _ h_=>h_.1))) hb);have n4_:=A_ (blk_below (g:=gb378) (o:=.cells #[.int .i64 t375,.int .i64 t376] 36 (0,0)) (by (with_reducible repeat (first|refine blk_drewN ?_ _|refine blk_drew ?_|refine blk_alloc ?_ _));refine blk_far ?_ NB378_382.out _;(with_reducible repeat (first|refine blk_drewN ?_ _|refine blk_drew ?_|refine blk_alloc ?_ _));refine blk_far ?_ NB378_382.out _;(with_reducible repeat (first|refine blk_drewN ?_ _|refine blk_drew ?_|refine blk_alloc ?_ _));exact BK378.out) hb);have n5_:=A_ (blk_below (g:=gb382) (o:=.cells #[.int .i64 t379,.int .i64 t380] 36 (0,0)) (by (with_reducible repeat (first|refine blk_drewN ?_ _|refine blk_drew ?_|refine blk_alloc ?_ _));refine blk_put (cs:=#[.int .i64 t379,.int .i64 0]) ?_ 1 _ rfl;(with_reducible repeat (first|refine blk_drewN ?_ _|refine blk_drew ?_|refine blk_alloc ?_ _));refine blk_put (cs:=#[.int .i64 0,.int .i64 0]) ?_ 0 _ rfl;(with_reducible repeat (first|refine blk_drewN ?_ _|refine blk_drew ?_|refine blk_alloc ?_ _));exact BK382.out) hb);have n6_:=A_ (below_step (by repeat (first|(with_reducible first|exact HB.out|apply ba|apply bb|apply bc|refine below_set ?_ GE378.out|refine below_set ?_ GE382.out)|exact HB.out)) hb);clear HO_3;clear HO_4;clear HL365_0;clear HL366_0;clear BK378;clear BK382;clear HB;have HO_3:=n0_;have HO_4:=n1_;have HL365_0:=n2_;have HL366_0:=n3_;have BK378:=n4_;have BK382:=n5_;have HB:=n6_;clear n0_ n1_ n2_ n3_ n4_ n5_ n6_;(try clear hb);(try clear hb2);(try clear hk);(try clear hi))|(go_at_call 15;(with_reducible refine (shapesearchlaw16_awake.calls kj16  t384 _ A65.out).mono ?_);rintro e w70 ⟨rfl,hb⟩;have n0_:=A_ (Kd.S_below (by (with_reducible repeat (first|apply sa_|apply sd_|apply se_));exact HO_3.out) hb);have n1_:=A_ (Kd.S_below (by (with_reducible repeat (first|apply sa_|apply sd_|apply se_));exact HO_4.out) hb);have n2_:=A_ (rw_ (by (with_reducible repeat (first|apply ra|apply rb|apply rc));exact HL365_0.out) hb);have n3_:=A_ (rw_ (by (with_reducible repeat (first|apply ra|apply rb|apply rc));exact HL366_0.out) hb);have n4_:=A_ (blk_below (g:=gb378) (o:=.cells #[.int .i64 t375,.int .i64 t376] 36 (0,0)) (by (with_reducible repeat (first|refine blk_drewN ?_ _|refine blk_drew ?_|refine blk_alloc ?_ _));exact BK378.out) hb);have n5_:=A_ (blk_below (g:=gb382) (o:=.cells #[.int .i64 t379,.int .i64 t380] 36 (0,0)) (by (with_reducible repeat (first|refine blk_drewN ?_ _|refine blk_drew ?_|refine blk_alloc ?_ _));exact BK382.out) hb);have n6_:=A_ (below_step (by repeat (first|(with_reducible first|exact HB.out|apply ba|apply bb|apply bc|refine below_set ?_ GE378.out|refine below_set ?_ GE382.out)|exact HB.out)) hb);clear HO_3;clear HO_4;clear HL365_0;clear HL366_0;clear BK378;clear BK382;clear HB;have HO_3:=n0_;have HO_4:=n1_;have HL365_0:=n2_;have HL366_0:=n3_;have BK378:=n4_;have BK382:=n5_;have HB:=n6_;clear n0_ n1_ n2_ n3_ n4_ n5_ n6_;(try clear hb);(try clear hb2);(try clear hk);(try clear hi)))
                go_ret
                exact ⟨by first|rfl|(simp [errW_none,errW_some] <;> rfl)|(simp only [← hji4];first|rfl|(simp [errW_none,errW_some] <;> rfl))|(simp [*,errW_none,errW_some] <;> rfl),by repeat (first|(with_reducible first|exact HB.out|apply ba|apply bb|apply bc|refine below_set ?_ GE378.out|refine below_set ?_ GE382.out)|exact HB.out)⟩
               ·
                rw [if_neg c64] at H
                have c64b0 : decide (t383 ≤ 0) = false:=decide_eq_false c64
                clear c64
                exact absurd ((Option.some.inj H).trans HTR_.out) (by decide)
              ·
               rw [if_neg c62] at H
               have c62b0 : (t381 == 0) = false:=beq_eq_false_iff_ne.mpr c62
               have c62b1 : (t381 != 0) = true:=bne_iff_ne.mpr c62
               exact absurd ((Option.some.inj H).trans HTR_.out) (by decide)
             ·
              rw [if_neg c61] at H
              have c61b0 : (t377 == 0) = false:=beq_eq_false_iff_ne.mpr c61
              have c61b1 : (t377 != 0) = true:=bne_iff_ne.mpr c61
              (first|rw [c61b0]|(simp only [i64_w,i32_w];rw [c61b0])|skip)
              exact absurd ((Option.some.inj H).trans HTR_.out) (by decide)
            ·
             rw [if_neg c44] at H
             exact absurd H (by simp)
           ·
            rw [if_neg c42] at H
            exact absurd H (by simp)
          ·
           rw [if_neg c41] at H
           exact absurd H (by simp)
         ·
          rw [if_neg c40] at H
          have c40b0 : (((rd_L1 t333 0).length : Int) == ((rd_L1 t336 0).length : Int)) = false:=beq_eq_false_iff_ne.mpr c40
          have c40b1 : (((rd_L1 t333 0).length : Int) != ((rd_L1 t336 0).length : Int)) = true:=bne_iff_ne.mpr c40
          have c40b2 : ((rd_L1 t333 0).length == (rd_L1 t336 0).length) = false:=by first|simpa using c40|(simp at c40 ⊢;omega)
          replace H:=Option.bind_eq_some_iff.mp H
          obtain ⟨t385,A710,H⟩:=H
          replace H : (some t385) = some r:=H
          have A71:=A_ A710
          clear A710
          obtain rfl:=Option.some.inj H
          try go_wp2
          have n0_:=A_ (Kd.S_drew HO_3.out)
          have n1_:=A_ (Kd.S_drew HO_4.out)
          have n2_:=A_ (Kd.C_drew HR344.out)
          have n3_:=A_ (Kd.C_drew HR348.out)
          have n4_:=A_ (Kd.C_drew HR356.out)
          have n5_:=A_ (Kd.C_drew HR360.out)
          have n6_:=A_ (below_drew1 HB.out)
          clear HO_3
          clear HO_4
          clear HR344
          clear HR348
          clear HR356
          clear HR360
          clear HB
          have HO_3:=n0_
          have HO_4:=n1_
          have HR344:=n2_
          have HR348:=n3_
          have HR356:=n4_
          have HR360:=n5_
          have HB:=n6_
          clear n0_ n1_ n2_ n3_ n4_ n5_ n6_
          have p365 : 0 ≤ (0 : Int):=(by omega)
          have q365 : 0 < (t333.length : Int):=of_decide_eq_true (by first|(with_reducible assumption)|assumption)
          obtain ⟨ad365,A365_0,c365_0,e365,hx365_0,hl365_0,hi365_0⟩:=at_L1 (Kd.S_reads' HO_3.out).2.2 0 p365 q365
          cases e365
          obtain ⟨ce365,hce365,hMe365,hcc365⟩:=Kd.S_get HO_3.out [] 0 p365 (by first|exact q365|exact of_decide_eq_true (by first|(with_reducible assumption)|assumption)|(have e_:=(Kd.S_reads' HO_3.out).1;omega))
          obtain ⟨ve365_0,rfl,ge365_0⟩:=hMe365
          have hv365_0:=hcc365 0 _ rfl
          rw [Nat.add_zero,show ((Kd.slice 3 (Kd.int .i64))).sz = 1 from rfl,Nat.mul_one] at hv365_0
          replace hv365_0:=Option.some.inj (hv365_0.symm.trans hx365_0)
          rw [hv365_0] at ge365_0
          have HL365_0:=A_ (show Kd.R (Kd.int .i64) 3 _ _ _ _ (rd_L1 t333 0) from ge365_0)
          clear hv365_0 ge365_0
          clear hcc365 hce365
          have qi365 : (0 < t333.length) = True:=eq_true (by omega)
          (try rw [show ((0 : Int)).toNat = 0 from rfl] at hx365_0)
          (try rw [Addr.add_zero'] at hx365_0)
          have HR365_0:=A_ hi365_0
          have HC365_0:=A_ hl365_0
          clear hi365_0 hl365_0
          replace p365:=eq_true p365
          replace q365:=eq_true q365
          have p366 : 0 ≤ (0 : Int):=(by omega)
          have q366 : 0 < (t336.length : Int):=of_decide_eq_true (by first|(with_reducible assumption)|assumption)
          obtain ⟨ad366,A366_0,c366_0,e366,hx366_0,hl366_0,hi366_0⟩:=at_L1 (Kd.S_reads' HO_4.out).2.2 0 p366 q366
          cases e366
          obtain ⟨ce366,hce366,hMe366,hcc366⟩:=Kd.S_get HO_4.out [] 0 p366 (by first|exact q366|exact of_decide_eq_true (by first|(with_reducible assumption)|assumption)|(have e_:=(Kd.S_reads' HO_4.out).1;omega))
          obtain ⟨ve366_0,rfl,ge366_0⟩:=hMe366
          have hv366_0:=hcc366 0 _ rfl
          rw [Nat.add_zero,show ((Kd.slice 3 (Kd.int .i64))).sz = 1 from rfl,Nat.mul_one] at hv366_0
          replace hv366_0:=Option.some.inj (hv366_0.symm.trans hx366_0)
          rw [hv366_0] at ge366_0
          have HL366_0:=A_ (show Kd.R (Kd.int .i64) 3 _ _ _ _ (rd_L1 t336 0) from ge366_0)
          clear hv366_0 ge366_0
          clear hcc366 hce366
          have qi366 : (0 < t336.length) = True:=eq_true (by omega)
          (try rw [show ((0 : Int)).toNat = 0 from rfl] at hx366_0)
          (try rw [Addr.add_zero'] at hx366_0)
          have HR366_0:=A_ hi366_0
          have HC366_0:=A_ hl366_0
          clear hi366_0 hl366_0
          replace p366:=eq_true p366
          replace q366:=eq_true q366
          refine start_ (n:=9) (S:=fun w'=>w'.cell? ad365 = some (.slice A365_0 (rd_L1 t333 0).length c365_0)∧w'.cell? ad366 = some (.slice A366_0 (rd_L1 t336 0).length c366_0)) (ds:=[]) #[false,false,false,false,false,false,false,false,false] (by kernel_rfl) rfl rfl ⟨hx365_0,hx366_0⟩ (fun hHeld=>?_);refine with_tabW shapesearchlaw16_ChannelsMore.tab9 shapesearchlaw16_ChannelsMore.bits9 (fun HT_ HW_=>?_)
          generalize wc.drew = w72 at HO_3 HO_4 HR344 HR348 HR356 HR360 HB HL365_0 HL366_0 HR365_0 HR366_0 hx365_0 hx366_0 hHeld ⊢
          refine pure_ (i:=0) (N:=some 90) (v:=?_) (a':=?_) #[true,false,false,false,false,false,false,false,false] rfl rfl (any_of HT_.out (by kernel_rfl)) (fun _ _ _ h=>h) (Or.inl ⟨by rfl,?_⟩) ?_ ?_
          rotate_left
          ·
           intro w'
           go_simp
           with_reducible rfl
          rotate_left
          ·
           simp only [Act.put,sa,sb,sc,i64_w,i32_w]
           rfl
          refine pure_ (i:=1) (N:=some 91) (v:=?_) (a':=?_) #[true,true,false,false,false,false,false,false,false] rfl rfl (any_of HT_.out (by kernel_rfl)) (fun _ _ _ h=>h) (Or.inl ⟨by rfl,?_⟩) ?_ ?_
          rotate_left
          ·
           intro w'
           go_simp
           with_reducible rfl
          rotate_left
          ·
           simp only [Act.put,sa,sb,sc,i64_w,i32_w]
           rfl
          refine pure_ (i:=4) (N:=some 94) (v:=?_) (a':=?_) #[true,true,false,false,true,false,false,false,false] rfl rfl (any_of HT_.out (by kernel_rfl)) (fun _ _ _ h=>h) (Or.inl ⟨by rfl,?_⟩) ?_ ?_
          rotate_left
          ·
           intro w'
           go_simp
           with_reducible rfl
          rotate_left
          ·
           simp only [Act.put,sa,sb,sc,i64_w,i32_w]
           rfl
          refine pure_ (i:=5) (N:=some 95) (v:=?_) (a':=?_) #[true,true,false,false,true,true,false,false,false] rfl rfl (any_of HT_.out (by kernel_rfl)) (fun _ _ _ h=>h) (Or.inl ⟨by rfl,?_⟩) ?_ ?_
          rotate_left
          ·
           intro w'
           go_simp
           with_reducible rfl
          rotate_left
          ·
           simp only [Act.put,sa,sb,sc,i64_w,i32_w]
           rfl
          refine take_ (i:=2) (N:=some 92) (v:=?_) (a':=?_) #[true,true,true,false,true,true,false,false,false] rfl rfl (take_ofW HT_.out HW_.out (by kernel_rfl)) (fun _ _ _ h=>h) (Or.inl ⟨by rfl,?_⟩) hHeld ?_ ?_
          rotate_left
          ·
           rintro w' ⟨s0,s1⟩
           go_simp
           with_reducible rfl
          rotate_left
          ·
           simp only [Act.put,sa,sb,sc,i64_w,i32_w]
           rfl
          refine pure_ (i:=3) (N:=some 93) (v:=?_) (a':=?_) #[true,true,true,true,true,true,false,false,false] rfl rfl (any_of HT_.out (by kernel_rfl)) (fun _ _ _ h=>h) (Or.inl ⟨by rfl,?_⟩) ?_ ?_
          rotate_left
          ·
           intro w'
           go_simp
           with_reducible rfl
          rotate_left
          ·
           simp only [Act.put,sa,sb,sc,i64_w,i32_w]
           rfl
          refine take_ (i:=6) (N:=some 96) (v:=?_) (a':=?_) #[true,true,true,true,true,true,true,false,false] rfl rfl (take_ofW HT_.out HW_.out (by kernel_rfl)) (fun _ _ _ h=>h) (Or.inl ⟨by rfl,?_⟩) hHeld ?_ ?_
          rotate_left
          ·
           rintro w' ⟨s0,s1⟩
           go_simp
           with_reducible rfl
          rotate_left
          ·
           simp only [Act.put,sa,sb,sc,i64_w,i32_w]
           rfl
          refine pure_ (i:=7) (N:=some 97) (v:=?_) (a':=?_) #[true,true,true,true,true,true,true,true,false] rfl rfl (any_of HT_.out (by kernel_rfl)) (fun _ _ _ h=>h) (Or.inl ⟨by rfl,?_⟩) ?_ ?_
          rotate_left
          ·
           intro w'
           go_simp
           with_reducible rfl
          rotate_left
          ·
           simp only [Act.put,sa,sb,sc,i64_w,i32_w]
           rfl
          refine pure_ (i:=8) (N:=some 98) (v:=?_) (a':=?_) #[true,true,true,true,true,true,true,true,true] rfl rfl (any_of HT_.out (by kernel_rfl)) (fun _ _ _ h=>h) (Or.inl ⟨by rfl,?_⟩) ?_ ?_
          rotate_left
          ·
           intro w'
           go_simp
           with_reducible rfl
          rotate_left
          ·
           simp only [Act.put,sa,sb,sc,i64_w,i32_w]
           rfl
          refine done_ (done_of HT_.out (by kernel_rfl)) ?_
          try go_wp2_with (first|((with_reducible refine gate_callee (f:=15) rfl ?_);refine goesL_ (some 130) rfl rfl Try.func15 (by kernel_rfl) rfl #[] rfl (by (try simp only [List.map_toArray,List.map_cons,List.map_nil]);first|done|rfl|(simp only [List.length_drop,List.length_take];rfl)|((try rw [KY22.out]);(try rw [KY23.out]);(try rw [KY28.out]);(try rw [KY29.out]);(try rw [KY50.out]);(try rw [KY51.out]);rfl)) ?_;(with_reducible refine (shapesearchlaw16_awake.calls kj16  t385 _ A71.out).mono ?_);rintro e w73 ⟨rfl,hb⟩;refine ⟨_,rfl,?_⟩;have n0_:=A_ (Kd.S_below (by (with_reducible repeat (first|apply sa_|apply sd_|apply se_));exact HO_3.out) hb);have n1_:=A_ (Kd.S_below (by (with_reducible repeat (first|apply sa_|apply sd_|apply se_));exact HO_4.out) hb);have n2_:=A_ (rw_ (by (with_reducible repeat (first|apply ra|apply rb|apply rc));exact HL365_0.out) hb);have n3_:=A_ (rw_ (by (with_reducible repeat (first|apply ra|apply rb|apply rc));exact HL366_0.out) hb);have n4_:=A_ (cl (by repeat (first|(with_reducible exact HR344.out)|(with_reducible refine ca ?_ _)|(with_reducible refine cb ?_ _)|(with_reducible refine cc ?_)|exact HR344.out)) hb);have n5_:=A_ (cl (by repeat (first|(with_reducible exact HR348.out)|(with_reducible refine ca ?_ _)|(with_reducible refine cb ?_ _)|(with_reducible refine cc ?_)|exact HR348.out)) hb);have n6_:=A_ (cl (by repeat (first|(with_reducible exact HR356.out)|(with_reducible refine ca ?_ _)|(with_reducible refine cb ?_ _)|(with_reducible refine cc ?_)|exact HR356.out)) hb);have n7_:=A_ (cl (by repeat (first|(with_reducible exact HR360.out)|(with_reducible refine ca ?_ _)|(with_reducible refine cb ?_ _)|(with_reducible refine cc ?_)|exact HR360.out)) hb);have n8_:=A_ (cl (by repeat (first|(with_reducible exact HR365_0.out)|(with_reducible refine ca ?_ _)|(with_reducible refine cb ?_ _)|(with_reducible refine cc ?_)|exact HR365_0.out)) hb);have n9_:=A_ (cl (by repeat (first|(with_reducible exact HR366_0.out)|(with_reducible refine ca ?_ _)|(with_reducible refine cb ?_ _)|(with_reducible refine cc ?_)|exact HR366_0.out)) hb);have n10_:=A_ (below_step (by repeat (first|(with_reducible first|exact HB.out|apply ba|apply bb|apply bc)|exact HB.out)) hb);clear HO_3;clear HO_4;clear HL365_0;clear HL366_0;clear HR344;clear HR348;clear HR356;clear HR360;clear HR365_0;clear HR366_0;clear HB;have HO_3:=n0_;have HO_4:=n1_;have HL365_0:=n2_;have HL366_0:=n3_;have HR344:=n4_;have HR348:=n5_;have HR356:=n6_;have HR360:=n7_;have HR365_0:=n8_;have HR366_0:=n9_;have HB:=n10_;clear n0_ n1_ n2_ n3_ n4_ n5_ n6_ n7_ n8_ n9_ n10_;(try clear hb);(try clear hb2);(try clear hk);(try clear hi)))
          go_ret
          exact ⟨by first|rfl|(simp [errW_none,errW_some] <;> rfl)|(simp only [← hji4];first|rfl|(simp [errW_none,errW_some] <;> rfl))|(simp [*,errW_none,errW_some] <;> rfl),by repeat (first|(with_reducible first|exact HB.out|apply ba|apply bb|apply bc)|exact HB.out)⟩
        ·
         rw [if_neg c39] at H
         exact absurd H (by simp)
       ·
        rw [if_neg c38] at H
        exact absurd H (by simp)
   ·
    rw [if_neg c8] at H
    exact absurd H (by simp)
  ·
   rw [if_neg c6] at H
   exact absurd H (by simp)
 ·
  rw [if_neg c5] at H
  exact absurd H (by simp)

/-- THE ONE PURE STATEMENT of shapesearchlaw16_ChannelsMore: yours. -/
def shapesearchlaw16_ChannelsMore.Pure : Prop:=∀ (l0 : List Int),l0.length ≤ maxLen → l0.length * 8 ≤ 140737488351232 → (∀ x ∈ l0,(Lit.int .i64 x).wf = true) → ∃ k,shapesearchlaw16_ChannelsMore.f k l0 = some true
theorem shapesearchlaw16_ChannelsMore.walk (P : shapesearchlaw16_ChannelsMore.Pure) (a0 : Option Addr) (len0 cap0 : Nat) (z0 : List Int) (w : World) (w0 : (a0 = none∧len0 = 0∧cap0 = 0∧z0 = []) ∨ ∃ x,a0 = some x∧len0 ≤ cap0∧cap0 ≤ maxLen∧z0.length = cap0∧(∀ i,i < z0.length → w.cell? (x.add i) = some (.int .i64 (z0.getD i 0)))∧∀ n ∈ z0,(Lit.int .i64 n).wf = true) (y0 : len0 * 8 ≤ 140737488351232) :
 Calls Try.prog 5 #[.slice a0 len0 cap0] w fun e w'=>e = .returned (.bool true)∧Below w.heap.size w w':=by
 obtain ⟨l0,rfl,hr0,hm0,hw0,hc0⟩:=ReadsInt.ofRowC w0
 obtain ⟨k,h⟩:=P l0 hm0 y0 hw0
 refine (shapesearchlaw16_ChannelsMore.calls k _ _ l0 true w (Kd.C_of_reads (d:=(0 : Int)) (h1:=fun _=>rfl) hr0) hc0 h rfl).mono ?_
 rintro e w' ⟨rfl,hd⟩
 exact ⟨rfl,hd⟩

end Go.Proofs.Ytodipcfbgnljeaa.PChannelsMore
