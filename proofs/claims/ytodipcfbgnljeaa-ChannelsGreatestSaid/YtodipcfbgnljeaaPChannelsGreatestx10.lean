/- This file proves, function by function, what the Go functions that one law uses compute; most of it was printed by a program (wip/tools of this session, over the kit's print). -/
import Derived.Test.YtodipcfbgnljeaaPChannelsGreatestx0
import Derived.Test.YtodipcfbgnljeaaPChannelsGreatestx1
import Derived.Test.YtodipcfbgnljeaaPChannelsGreatestx2
import Derived.Test.YtodipcfbgnljeaaPChannelsGreatestx3
import Derived.Test.YtodipcfbgnljeaaPChannelsGreatestx5
import Derived.Test.YtodipcfbgnljeaaPChannelsGreatestx6
import Derived.Test.YtodipcfbgnljeaaPChannelsGreatestx7
import Derived.Test.YtodipcfbgnljeaaPChannelsGreatestx9
namespace Go.Proofs.Ytodipcfbgnljeaa.PChannelsGreatest
open Go.RowKit Go.Proofs.YtodipcfbgnljeaaW.PrintWords Go.Proofs.YtodipcfbgnljeaaW.PrintLast Go.Proofs.YtodipcfbgnljeaaW.PrintMore
attribute [local go_sem] max2_int min2_int max_two min_two max_three min_three max_four min_four   -- for this text's walks alone
set_option linter.unusedVariables false
set_option linter.unusedSimpArgs false

attribute [local go_sem high] eqA36
/-! ### shapesearchlaw16_ChannelsGreatest: function 6 -/
def shapesearchlaw16_ChannelsGreatest.l0 : Nat → List (List Int) → List (List Int) → Int → Bool → Int → Int → Int → Int → Option (Bool)
 | 0,_,_,_,_,_,_,_,_=>none
 | k + 1,x6,x7,x9,x10,x45,x46,x376000,x376001=>if x46 < x45 then (if 0 ≤ x46 then (if x46 < (x6.length : Int) then (if x46 < (x7.length : Int) then ((shapesearchref13_Gap.f k (rd_L1 x6 x46) (rd_L1 x7 x46)).bind fun bt379=>((shapesearchref01_Less.f k x376000 x376001 bt379.1 bt379.2.1).bind fun t383=>(if t383 = true then (some false) else (if x10 = true then (shapesearchlaw16_ChannelsGreatest.l0 k x6 x7 x9 true x45 (wrap64 (x46 + 1)) x376000 x376001) else (shapesearchlaw16_ChannelsGreatest.l0 k x6 x7 x9 (x376000 == bt379.1 && (x376001 == bt379.2.1)) x45 (wrap64 (x46 + 1)) x376000 x376001))))) else (none)) else (none)) else (none)) else (if x9 = 0 then (if x10 = true then ((shapesearchlaw16_awake.f k).bind fun t376=>(some t376)) else (some false)) else (some false))
def shapesearchlaw16_ChannelsGreatest.f (k : Nat) (l0 : List Int) : Option (Bool):=(shapesearchkeep_New.f l0).bind fun bt340=>((shapesearchkeep_Src_Pair.f k bt340.1 bt340.2).bind fun bt343=>((shapesearchkeep_Src_Near.f k bt340.1 bt343.2.2 bt343.1).bind fun bt350=>((shapesearchkeep_Src_List.f k bt340.1 bt350.2 (bt343.1.length : Int)).bind fun bt354=>((some (([bt343.1,bt350.1,bt354.1] : List (List Int)) : List (List Int))).bind fun y358=>((shapesearchkeep_Src_Near.f k bt340.1 bt354.2 bt343.2.1).bind fun bt361=>((shapesearchkeep_Src_Near.f k bt340.1 bt361.2 bt343.1).bind fun bt365=>((some (([bt343.2.1,bt361.1,bt365.1] : List (List Int)) : List (List Int))).bind fun y369=>((channels_Greatest.f k y358 y369).bind fun bt372=>(shapesearchlaw16_ChannelsGreatest.l0 k y358 y369 bt372.2.2 false (y358.length : Int) 0 bt372.1 bt372.2.1)))))))))
theorem shapesearchlaw16_ChannelsGreatest.mono_l : ∀ k,(∀ y0 y1 y2 y3 y4 y5 y6 y7,LeO (shapesearchlaw16_ChannelsGreatest.l0 k y0 y1 y2 y3 y4 y5 y6 y7) (shapesearchlaw16_ChannelsGreatest.l0 (k + 1) y0 y1 y2 y3 y4 y5 y6 y7))
 | 0=>fun _ _ _ _ _ _ _ _ r h=>by simp [shapesearchlaw16_ChannelsGreatest.l0] at h
 | k + 1=>by
  have ih0:=shapesearchlaw16_ChannelsGreatest.mono_l k
  ·
   intro y0 y1 y2 y3 y4 y5 y6 y7
   unfold shapesearchlaw16_ChannelsGreatest.l0
   repeat' first
   | (with_reducible exact ih0 _ _ _ _ _ _ _ _)
   | (with_reducible exact channels_Greatest.mono _ _ _)
   | (with_reducible exact shapesearchkeep_Src_List.mono _ _ _ _)
   | (with_reducible exact shapesearchkeep_Src_Near.mono _ _ _ _)
   | (with_reducible exact shapesearchkeep_Src_Pair.mono _ _ _)
   | (with_reducible exact shapesearchlaw16_awake.mono _)
   | (with_reducible exact shapesearchref01_Less.mono _ _ _ _ _)
   | (with_reducible exact shapesearchref13_Gap.mono _ _ _)
   | (with_reducible exact LeO.refl _)
   | (with_reducible exact LeO.none _)
   | (with_reducible refine LeO.ite ?_ ?_)
   | (with_reducible refine LeO.bind ?_ (fun _=>?_))
   | exact ih0 _ _ _ _ _ _ _ _
   | exact channels_Greatest.mono _ _ _
   | exact shapesearchkeep_Src_List.mono _ _ _ _
   | exact shapesearchkeep_Src_Near.mono _ _ _ _
   | exact shapesearchkeep_Src_Pair.mono _ _ _
   | exact shapesearchlaw16_awake.mono _
   | exact shapesearchref01_Less.mono _ _ _ _ _
   | exact shapesearchref13_Gap.mono _ _ _
   | exact LeO.none _
   | refine LeO.ite ?_ ?_
   | refine LeO.bind ?_ (fun _=>?_)
theorem shapesearchlaw16_ChannelsGreatest.mono : ∀ a0 k,LeO (shapesearchlaw16_ChannelsGreatest.f k a0) (shapesearchlaw16_ChannelsGreatest.f (k + 1) a0):=by
 intro a0 k
 have ih0:=shapesearchlaw16_ChannelsGreatest.mono_l k
 unfold shapesearchlaw16_ChannelsGreatest.f
 repeat' first
   | (with_reducible exact ih0 _ _ _ _ _ _ _ _)
   | (with_reducible exact channels_Greatest.mono _ _ _)
   | (with_reducible exact shapesearchkeep_Src_List.mono _ _ _ _)
   | (with_reducible exact shapesearchkeep_Src_Near.mono _ _ _ _)
   | (with_reducible exact shapesearchkeep_Src_Pair.mono _ _ _)
   | (with_reducible exact shapesearchlaw16_awake.mono _)
   | (with_reducible exact shapesearchref01_Less.mono _ _ _ _ _)
   | (with_reducible exact shapesearchref13_Gap.mono _ _ _)
   | (with_reducible exact LeO.refl _)
   | (with_reducible exact LeO.none _)
   | (with_reducible refine LeO.ite ?_ ?_)
   | (with_reducible refine LeO.bind ?_ (fun _=>?_))
   | exact ih0 _ _ _ _ _ _ _ _
   | exact channels_Greatest.mono _ _ _
   | exact shapesearchkeep_Src_List.mono _ _ _ _
   | exact shapesearchkeep_Src_Near.mono _ _ _ _
   | exact shapesearchkeep_Src_Pair.mono _ _ _
   | exact shapesearchlaw16_awake.mono _
   | exact shapesearchref01_Less.mono _ _ _ _ _
   | exact shapesearchref13_Gap.mono _ _ _
   | exact LeO.none _
   | refine LeO.ite ?_ ?_
   | refine LeO.bind ?_ (fun _=>?_)
def shapesearchlaw16_ChannelsGreatest.T9 : Bool × List (List Nat × List Nat):=(true,[([],[]),([],[]),([0,1],[0,1]),([2],[2]),([],[]),([],[]),([4,5],[4,5]),([6],[6]),([3,7],[3,7]),([8],[8]),([9],[9]),([9],[9]),([],[]),([12,10,8,0,1,2,3,4,5,6,7,8,9,10,12],[10,12]),([11,13,0,1,2,3,4,5,6,7,8,9,10,11,12,13],[11])])
def shapesearchlaw16_ChannelsGreatest.B9 : List Nat:=[0,0,3,7,0,0,48,112,255,511,1023,1023,0,6143,16383]
theorem shapesearchlaw16_ChannelsGreatest.tab9 : rtab .any (opsOf Try.f6 9) = shapesearchlaw16_ChannelsGreatest.T9:=by kernel_rfl
theorem shapesearchlaw16_ChannelsGreatest.bits9 : waitsOk shapesearchlaw16_ChannelsGreatest.T9.2 shapesearchlaw16_ChannelsGreatest.B9 = true:=by kernel_rfl
set_option maxHeartbeats 8000000 in
set_option maxRecDepth 100000 in
theorem shapesearchlaw16_ChannelsGreatest.calls (k : Nat) (A0 : Option Addr) (c0 : Nat) (l0 : List Int) (r : Bool) (w : World) (hr0 : Kd.C (Kd.int .i64) w A0 l0.length l0) (hc0 : l0.length ≤ c0) (h : shapesearchlaw16_ChannelsGreatest.f k l0 = some r) (hT_ : r = true) :
  Calls Try.prog 6 #[.slice A0 l0.length c0] w fun e w'=>e = .returned (.bool r)∧Below w.heap.size w w':=by
 have HTR_:=A_ hT_
 clear hT_
 have hu36:=Try.underlying36
 have HR0:=A_ hr0
 have HC0:=A_ hc0
 clear hr0 hc0
 have HB:=A_ (Below.refl w.heap.size w)
 have H : ((shapesearchkeep_New.f l0).bind fun bt340=>((shapesearchkeep_Src_Pair.f k bt340.1 bt340.2).bind fun bt343=>((shapesearchkeep_Src_Near.f k bt340.1 bt343.2.2 bt343.1).bind fun bt350=>((shapesearchkeep_Src_List.f k bt340.1 bt350.2 (bt343.1.length : Int)).bind fun bt354=>((some (([bt343.1,bt350.1,bt354.1] : List (List Int)) : List (List Int))).bind fun y358=>((shapesearchkeep_Src_Near.f k bt340.1 bt354.2 bt343.2.1).bind fun bt361=>((shapesearchkeep_Src_Near.f k bt340.1 bt361.2 bt343.1).bind fun bt365=>((some (([bt343.2.1,bt361.1,bt365.1] : List (List Int)) : List (List Int))).bind fun y369=>((channels_Greatest.f k y358 y369).bind fun bt372=>(shapesearchlaw16_ChannelsGreatest.l0 k y358 y369 bt372.2.2 false (y358.length : Int) 0 bt372.1 bt372.2.1)))))))))) = some r:=h
 clear h
 replace H:=Option.bind_eq_some_iff.mp H
 obtain ⟨⟨t340,t341⟩,A20,H⟩:=H
 replace H : ((shapesearchkeep_Src_Pair.f k t340 t341).bind fun bt343=>((shapesearchkeep_Src_Near.f k t340 bt343.2.2 bt343.1).bind fun bt350=>((shapesearchkeep_Src_List.f k t340 bt350.2 (bt343.1.length : Int)).bind fun bt354=>((some (([bt343.1,bt350.1,bt354.1] : List (List Int)) : List (List Int))).bind fun y358=>((shapesearchkeep_Src_Near.f k t340 bt354.2 bt343.2.1).bind fun bt361=>((shapesearchkeep_Src_Near.f k t340 bt361.2 bt343.1).bind fun bt365=>((some (([bt343.2.1,bt361.1,bt365.1] : List (List Int)) : List (List Int))).bind fun y369=>((channels_Greatest.f k y358 y369).bind fun bt372=>(shapesearchlaw16_ChannelsGreatest.l0 k y358 y369 bt372.2.2 false (y358.length : Int) 0 bt372.1 bt372.2.1))))))))) = some r:=H
 have A2:=A_ A20
 clear A20
 replace H:=Option.bind_eq_some_iff.mp H
 obtain ⟨⟨t343,t346,t349⟩,A30,H⟩:=H
 replace H : ((shapesearchkeep_Src_Near.f k t340 t349 t343).bind fun bt350=>((shapesearchkeep_Src_List.f k t340 bt350.2 (t343.length : Int)).bind fun bt354=>((some (([t343,bt350.1,bt354.1] : List (List Int)) : List (List Int))).bind fun y358=>((shapesearchkeep_Src_Near.f k t340 bt354.2 t346).bind fun bt361=>((shapesearchkeep_Src_Near.f k t340 bt361.2 t343).bind fun bt365=>((some (([t346,bt361.1,bt365.1] : List (List Int)) : List (List Int))).bind fun y369=>((channels_Greatest.f k y358 y369).bind fun bt372=>(shapesearchlaw16_ChannelsGreatest.l0 k y358 y369 bt372.2.2 false (y358.length : Int) 0 bt372.1 bt372.2.1)))))))) = some r:=H
 have A3:=A_ A30
 clear A30
 replace H:=Option.bind_eq_some_iff.mp H
 obtain ⟨⟨t350,t353⟩,A40,H⟩:=H
 replace H : ((shapesearchkeep_Src_List.f k t340 t353 (t343.length : Int)).bind fun bt354=>((some (([t343,t350,bt354.1] : List (List Int)) : List (List Int))).bind fun y358=>((shapesearchkeep_Src_Near.f k t340 bt354.2 t346).bind fun bt361=>((shapesearchkeep_Src_Near.f k t340 bt361.2 t343).bind fun bt365=>((some (([t346,bt361.1,bt365.1] : List (List Int)) : List (List Int))).bind fun y369=>((channels_Greatest.f k y358 y369).bind fun bt372=>(shapesearchlaw16_ChannelsGreatest.l0 k y358 y369 bt372.2.2 false (y358.length : Int) 0 bt372.1 bt372.2.1))))))) = some r:=H
 have A4:=A_ A40
 clear A40
 replace H:=Option.bind_eq_some_iff.mp H
 obtain ⟨⟨t354,t357⟩,A50,H⟩:=H
 replace H : ((some (([t343,t350,t354] : List (List Int)) : List (List Int))).bind fun y358=>((shapesearchkeep_Src_Near.f k t340 t357 t346).bind fun bt361=>((shapesearchkeep_Src_Near.f k t340 bt361.2 t343).bind fun bt365=>((some (([t346,bt361.1,bt365.1] : List (List Int)) : List (List Int))).bind fun y369=>((channels_Greatest.f k y358 y369).bind fun bt372=>(shapesearchlaw16_ChannelsGreatest.l0 k y358 y369 bt372.2.2 false (y358.length : Int) 0 bt372.1 bt372.2.1)))))) = some r:=H
 have A5:=A_ A50
 clear A50
 obtain ⟨y358,hy358⟩ : ∃ y_ : List (List Int),y_ = (([t343,t350,t354] : List (List Int))):=⟨_,rfl⟩
 replace H : ((shapesearchkeep_Src_Near.f k t340 t357 t346).bind fun bt361=>((shapesearchkeep_Src_Near.f k t340 bt361.2 t343).bind fun bt365=>((some (([t346,bt361.1,bt365.1] : List (List Int)) : List (List Int))).bind fun y369=>((channels_Greatest.f k y358 y369).bind fun bt372=>(shapesearchlaw16_ChannelsGreatest.l0 k y358 y369 bt372.2.2 false (y358.length : Int) 0 bt372.1 bt372.2.1))))) = some r:=by first|(rw [hy358];with_reducible exact H)|(have H2_:=(Option.bind_some _ _).symm.trans H;rw [hy358];with_reducible exact H2_)|(have H2_:=(Option.bind_some _ _).symm.trans H;with_reducible exact H2_)|with_reducible exact H|(rw [hy358];exact H)|exact H
 have Ny358:=A_ hy358
 clear hy358
 replace H:=Option.bind_eq_some_iff.mp H
 obtain ⟨⟨t361,t364⟩,A60,H⟩:=H
 replace H : ((shapesearchkeep_Src_Near.f k t340 t364 t343).bind fun bt365=>((some (([t346,t361,bt365.1] : List (List Int)) : List (List Int))).bind fun y369=>((channels_Greatest.f k y358 y369).bind fun bt372=>(shapesearchlaw16_ChannelsGreatest.l0 k y358 y369 bt372.2.2 false (y358.length : Int) 0 bt372.1 bt372.2.1)))) = some r:=H
 have A6:=A_ A60
 clear A60
 replace H:=Option.bind_eq_some_iff.mp H
 obtain ⟨⟨t365,t368⟩,A70,H⟩:=H
 replace H : ((some (([t346,t361,t365] : List (List Int)) : List (List Int))).bind fun y369=>((channels_Greatest.f k y358 y369).bind fun bt372=>(shapesearchlaw16_ChannelsGreatest.l0 k y358 y369 bt372.2.2 false (y358.length : Int) 0 bt372.1 bt372.2.1))) = some r:=H
 have A7:=A_ A70
 clear A70
 obtain ⟨y369,hy369⟩ : ∃ y_ : List (List Int),y_ = (([t346,t361,t365] : List (List Int))):=⟨_,rfl⟩
 replace H : ((channels_Greatest.f k y358 y369).bind fun bt372=>(shapesearchlaw16_ChannelsGreatest.l0 k y358 y369 bt372.2.2 false (y358.length : Int) 0 bt372.1 bt372.2.1)) = some r:=by first|(rw [hy369];with_reducible exact H)|(have H2_:=(Option.bind_some _ _).symm.trans H;rw [hy369];with_reducible exact H2_)|(have H2_:=(Option.bind_some _ _).symm.trans H;with_reducible exact H2_)|with_reducible exact H|(rw [hy369];exact H)|exact H
 have Ny369:=A_ hy369
 clear hy369
 replace H:=Option.bind_eq_some_iff.mp H
 obtain ⟨⟨t372,t373,t374⟩,A80,H⟩:=H
 replace H : (shapesearchlaw16_ChannelsGreatest.l0 k y358 y369 t374 false (y358.length : Int) 0 t372 t373) = some r:=H
 have A8:=A_ A80
 clear A80
 have H':=A_ H
 clear H
 go_enter Try.func6,Try.ntmps6
 go_wp2_with (first|((with_reducible refine gate_callee (f:=10) rfl ?_);refine goesL_ (some 15) rfl rfl Try.func10 (by kernel_rfl) rfl #[.slice A0 l0.length c0] rfl (by (try simp only [List.map_toArray,List.map_cons,List.map_nil]);first|done|rfl|(simp only [List.length_drop,List.length_take];rfl)) ?_;(with_reducible refine (shapesearchkeep_New.calls _ _ l0 t340 t341 w _ ?side1 ?side2 ?side3 A2.out).mono ?_);(case side1=>repeat (first|(with_reducible first|exact HB.out|apply ba|apply bb|apply bc)|exact HB.out));(case side2=>exact HR0.out);(case side3=>exact HC0.out);rintro e w9 ⟨g342,rfl,hi,hb,hb2⟩;refine ⟨_,rfl,?_⟩;have n0_:=A_ (hb);have n1_:=A_ (hi);clear HB;have HB:=n0_;have HI342:=n1_;clear n0_ n1_;(try clear hb);(try clear hb2);(try clear hk);(try clear hi))|((with_reducible refine gate_callee (f:=18) rfl ?_);refine goesL_ (some 18) rfl rfl Try.func18 (by kernel_rfl) rfl #[.pointer (some ⟨g342,0,none⟩)] rfl (by (try simp only [List.map_toArray,List.map_cons,List.map_nil]);first|done|rfl|(simp only [List.length_drop,List.length_take];rfl)) ?_;(with_reducible refine (shapesearchkeep_Src_Pair.calls k g342 t340 t341 t343 t346 t349 w _ ?side1 ?side2 A3.out).mono ?_);(case side1=>repeat (first|(with_reducible first|exact HI342.out|apply IsS56.alloc|apply IsS56.drewN|apply IsS56.drew|apply IsS56.set_1)|exact HI342.out));(case side2=>repeat (first|(with_reducible first|exact HB.out|apply ba|apply bb|apply bc|refine below_set ?_ (IsS56.ge HI342.out))|exact HB.out));rintro e w10 ⟨v344,v347,rfl,ho0,ho1,hi,hb,hk⟩;refine ⟨_,rfl,?_⟩;have n0_:=A_ (Kd.R_lower ho0 (below_size (by repeat (first|(with_reducible first|exact HB.out|apply ba|apply bb|apply bc|refine below_set ?_ (IsS56.ge HI342.out))|exact HB.out))));have n1_:=A_ (Kd.R_lower ho1 (below_size (by repeat (first|(with_reducible first|exact HB.out|apply ba|apply bb|apply bc|refine below_set ?_ (IsS56.ge HI342.out))|exact HB.out))));have n2_:=A_ (hb);have n3_:=A_ (hi);clear HB;clear HI342;have HO345:=n0_;have HO348:=n1_;have HB:=n2_;have HI342:=n3_;clear n0_ n1_ n2_ n3_;(try clear hb);(try clear hb2);(try clear hk);(try clear hi);(try clear ho0);(try clear ho1);obtain ⟨Ao11,co11,eo11⟩:=Kd.R_slice HO345.out;subst eo11)|((with_reducible refine gate_callee (f:=19) rfl ?_);refine goesL_ (some 24) rfl rfl Try.func19 (by kernel_rfl) rfl #[.pointer (some ⟨g342,0,none⟩),.slice Ao11 t343.length co11] rfl (by (try simp only [List.map_toArray,List.map_cons,List.map_nil]);first|done|rfl|(simp only [List.length_drop,List.length_take];rfl)) ?_;(with_reducible refine (shapesearchkeep_Src_Near.calls k g342 t340 t349 _ _ t343 t350 t353 w _ ?side1 ?side2 ?side3 ?side4 ?side5 A4.out).mono ?_);(case side1=>repeat (first|(with_reducible first|exact HI342.out|apply IsS56.alloc|apply IsS56.drewN|apply IsS56.drew|apply IsS56.set_1)|exact HI342.out));(case side2=>repeat (first|(with_reducible first|exact HB.out|apply ba|apply bb|apply bc|refine below_set ?_ (IsS56.ge HI342.out))|exact HB.out));(case side3=>repeat (first|exact (rd_ HO345.out).2.2|(with_reducible refine ca ?_ _)|(with_reducible refine cb ?_ _)|(with_reducible refine cc ?_)));(case side4=>exact (rd_ HO345.out).2.1);(case side5=>exact far_slice (IsS56.own_ne HI342.out HO345.out (by decide)));rintro e w12 ⟨v351,rfl,ho0,hi,hb,hk⟩;refine ⟨_,rfl,?_⟩;have n0_:=A_ (rm (Kd.R_told (Kd.R_oldK (IsS56.apart (show IsS56 w _ g342 t340 t349 from by repeat (first|(with_reducible first|exact HI342.out|apply IsS56.alloc|apply IsS56.drewN|apply IsS56.drew|apply IsS56.set_1)|exact HI342.out)) (by (with_reducible repeat (first|apply ra|apply rb|apply rc));exact HO345.out) (by decide)) hk) (rs ho0)) (fun _ h_=>h_.1));have n1_:=A_ (rm (Kd.R_told (Kd.R_oldK (IsS56.apart (show IsS56 w _ g342 t340 t349 from by repeat (first|(with_reducible first|exact HI342.out|apply IsS56.alloc|apply IsS56.drewN|apply IsS56.drew|apply IsS56.set_1)|exact HI342.out)) (by (with_reducible repeat (first|apply ra|apply rb|apply rc));exact HO348.out) (by decide)) hk) (rs ho0)) (fun _ h_=>h_.1));have n2_:=A_ (Kd.R_lower (rn (rn ho0 (rl (by (with_reducible repeat (first|apply ra|apply rb|apply rc));exact HO345.out))) (rl (by (with_reducible repeat (first|apply ra|apply rb|apply rc));exact HO348.out))) (below_size (by repeat (first|(with_reducible first|exact HB.out|apply ba|apply bb|apply bc|refine below_set ?_ (IsS56.ge HI342.out))|exact HB.out))));have n3_:=A_ (hb);have n4_:=A_ (hi);clear HO345;clear HO348;clear HB;clear HI342;have HO345:=n0_;have HO348:=n1_;have HO352:=n2_;have HB:=n3_;have HI342:=n4_;clear n0_ n1_ n2_ n3_ n4_;(try clear hb);(try clear hb2);(try clear hk);(try clear hi);(try clear ho0))|((with_reducible refine gate_callee (f:=20) rfl ?_);refine goesL_ (some 28) rfl rfl Try.func20 (by kernel_rfl) rfl #[.pointer (some ⟨g342,0,none⟩),.int .i64 (t343.length : Int)] rfl (by (try simp only [List.map_toArray,List.map_cons,List.map_nil]);first|done|rfl|(simp only [List.length_drop,List.length_take];rfl)) ?_;(with_reducible refine (shapesearchkeep_Src_List.calls k g342 t340 t353 (t343.length : Int) t354 t357 w _ ?side1 ?side2 A5.out).mono ?_);(case side1=>repeat (first|(with_reducible first|exact HI342.out|apply IsS56.alloc|apply IsS56.drewN|apply IsS56.drew|apply IsS56.set_1)|exact HI342.out));(case side2=>repeat (first|(with_reducible first|exact HB.out|apply ba|apply bb|apply bc|refine below_set ?_ (IsS56.ge HI342.out))|exact HB.out));rintro e w13 ⟨v355,rfl,ho0,hi,hb,hk⟩;refine ⟨_,rfl,?_⟩;have n0_:=A_ (rm (Kd.R_told (Kd.R_oldK (IsS56.apart (show IsS56 w _ g342 t340 t353 from by repeat (first|(with_reducible first|exact HI342.out|apply IsS56.alloc|apply IsS56.drewN|apply IsS56.drew|apply IsS56.set_1)|exact HI342.out)) (by (with_reducible repeat (first|apply ra|apply rb|apply rc));exact HO345.out) (by decide)) hk) (rs ho0)) (fun _ h_=>h_.1));have n1_:=A_ (rm (Kd.R_told (Kd.R_oldK (IsS56.apart (show IsS56 w _ g342 t340 t353 from by repeat (first|(with_reducible first|exact HI342.out|apply IsS56.alloc|apply IsS56.drewN|apply IsS56.drew|apply IsS56.set_1)|exact HI342.out)) (by (with_reducible repeat (first|apply ra|apply rb|apply rc));exact HO348.out) (by decide)) hk) (rs ho0)) (fun _ h_=>h_.1));have n2_:=A_ (rm (Kd.R_told (Kd.R_oldK (IsS56.apart (show IsS56 w _ g342 t340 t353 from by repeat (first|(with_reducible first|exact HI342.out|apply IsS56.alloc|apply IsS56.drewN|apply IsS56.drew|apply IsS56.set_1)|exact HI342.out)) (by (with_reducible repeat (first|apply ra|apply rb|apply rc));exact HO352.out) (by decide)) hk) (rs ho0)) (fun _ h_=>h_.1));have n3_:=A_ (Kd.R_lower (rn (rn (rn ho0 (rl (by (with_reducible repeat (first|apply ra|apply rb|apply rc));exact HO345.out))) (rl (by (with_reducible repeat (first|apply ra|apply rb|apply rc));exact HO348.out))) (rl (by (with_reducible repeat (first|apply ra|apply rb|apply rc));exact HO352.out))) (below_size (by repeat (first|(with_reducible first|exact HB.out|apply ba|apply bb|apply bc|refine below_set ?_ (IsS56.ge HI342.out))|exact HB.out))));have n4_:=A_ (hb);have n5_:=A_ (hi);clear HO345;clear HO348;clear HO352;clear HB;clear HI342;have HO345:=n0_;have HO348:=n1_;have HO352:=n2_;have HO356:=n3_;have HB:=n4_;have HI342:=n5_;clear n0_ n1_ n2_ n3_ n4_ n5_;(try clear hb);(try clear hb2);(try clear hk);(try clear hi);(try clear ho0);obtain ⟨Ao14,co14,eo14⟩:=Kd.R_slice HO352.out;subst eo14;obtain ⟨Ao15,co15,eo15⟩:=Kd.R_slice HO356.out;subst eo15)|((with_reducible refine gate_dst (N:=29) rfl ?_);refine Kd.N_lit (Kd.slice 3 (Kd.int .i64)) _ 22 ?hg (N':=29) ?hd (xs:=([t343,t350,t354] : List (List Int))) (inner:=[.slice Ao11 t343.length co11,.slice Ao14 t350.length co14,.slice Ao15 t354.length co15]) (ok:=(fun k_=>nb k_ v347∧k_≠g342)) (okp:=(fun k_=>nb k_ v347∧k_≠g342)) ?hr ?hp (fun _ hk=>hk) ((show ∀ k_,w13.heap.size ≤ k_ → (fun k_=>nb k_ v347∧k_≠g342) k_ from fun k_ hk=>⟨rh (rl (by (with_reducible repeat (first|apply ra|apply rb|apply rc));exact HO348.out)) k_ hk,IsS56.fresh (by repeat (first|(with_reducible first|exact HI342.out|apply IsS56.alloc|apply IsS56.drewN|apply IsS56.drew|apply IsS56.set_1)|exact HI342.out)) k_ hk⟩) _ (Nat.le_refl _)) (Below.refl _ _) (Nat.le_refl _) (by simp) ?_;(case hd=>rfl);(case hg=>rfl);(case hr=>first|(go_simp;done)|(go_simp;rfl));(case hp=>exact (Reps.one (show Kd.FK (Kd.slice 3 (Kd.int .i64)) _ _ t343 [.slice Ao11 t343.length co11] from (Kd.FK_slice_mk (rd_ (rm (ok':=(fun k_=>nb k_ v347∧k_≠g342)) (IsS56.apart HI342.out (HO345.out) (by decide)) (fun k_ hk=>⟨hk.1.1.1,hk.2⟩))).2.1 (Kd.R_F (rm (ok':=(fun k_=>nb k_ v347∧k_≠g342)) (IsS56.apart HI342.out (HO345.out) (by decide)) (fun k_ hk=>⟨hk.1.1.1,hk.2⟩))))) (Reps.one (show Kd.FK (Kd.slice 3 (Kd.int .i64)) _ _ t350 [.slice Ao14 t350.length co14] from (Kd.FK_slice_mk (rd_ (rm (ok':=(fun k_=>nb k_ v347∧k_≠g342)) (IsS56.apart HI342.out (HO352.out) (by decide)) (fun k_ hk=>⟨hk.1.1.2,hk.2⟩))).2.1 (Kd.R_F (rm (ok':=(fun k_=>nb k_ v347∧k_≠g342)) (IsS56.apart HI342.out (HO352.out) (by decide)) (fun k_ hk=>⟨hk.1.1.2,hk.2⟩))))) (Reps.one (show Kd.FK (Kd.slice 3 (Kd.int .i64)) _ _ t354 [.slice Ao15 t354.length co15] from (Kd.FK_slice_mk (rd_ (rm (ok':=(fun k_=>nb k_ v347∧k_≠g342)) (IsS56.apart HI342.out (HO356.out) (by decide)) (fun k_ hk=>⟨hk.1.1.2,hk.2⟩))).2.1 (Kd.R_F (rm (ok':=(fun k_=>nb k_ v347∧k_≠g342)) (IsS56.apart HI342.out (HO356.out) (by decide)) (fun k_ hk=>⟨hk.1.1.2,hk.2⟩))))) (Reps.none _ _)))));intro v359 w16 ho17 hb hg_ hnew_;clear hg_ hnew_;(first|rw [← Ny358.out] at ho17|(simp only [Int.reduceToNat] at ho17;rw [← Ny358.out] at ho17));have n0_:=A_ (rw_ (by (with_reducible repeat (first|apply ra|apply rb|apply rc));exact HO348.out) hb);have n1_:=A_ (Kd.N_lower ho17 (below_size (by repeat (first|(with_reducible first|exact HB.out|apply ba|apply bb|apply bc|refine below_set ?_ (IsS56.ge HI342.out))|exact HB.out))));have n2_:=A_ (IsS56.below (by repeat (first|(with_reducible first|exact HI342.out|apply IsS56.alloc|apply IsS56.drewN|apply IsS56.drew|apply IsS56.set_1)|exact HI342.out)) hb);have n3_:=A_ (below_step (by repeat (first|(with_reducible first|exact HB.out|apply ba|apply bb|apply bc|refine below_set ?_ (IsS56.ge HI342.out))|exact HB.out)) hb);have n9_:=A_ (rw_ (by (with_reducible repeat (first|apply ra|apply rb|apply rc));exact HO345.out) hb);clear HO348;clear HI342;clear HB;clear HO345;clear HO352;clear HO356;have HO345:=n9_;clear n9_;have HO348:=n0_;have HO360:=n1_;have HI342:=n2_;have HB:=n3_;clear n0_ n1_ n2_ n3_;clear hb ho17;obtain ⟨Ao18,co18,eo18⟩:=Kd.R_slice HO348.out;subst eo18)|((with_reducible refine gate_callee (f:=19) rfl ?_);refine goesL_ (some 33) rfl rfl Try.func19 (by kernel_rfl) rfl #[.pointer (some ⟨g342,0,none⟩),.slice Ao18 t346.length co18] rfl (by (try simp only [List.map_toArray,List.map_cons,List.map_nil]);first|done|rfl|(simp only [List.length_drop,List.length_take];rfl)) ?_;(with_reducible refine (shapesearchkeep_Src_Near.calls k g342 t340 t357 _ _ t346 t361 t364 w _ ?side1 ?side2 ?side3 ?side4 ?side5 A6.out).mono ?_);(case side1=>repeat (first|(with_reducible first|exact HI342.out|apply IsS56.alloc|apply IsS56.drewN|apply IsS56.drew|apply IsS56.set_1)|exact HI342.out));(case side2=>repeat (first|(with_reducible first|exact HB.out|apply ba|apply bb|apply bc|refine below_set ?_ (IsS56.ge HI342.out))|exact HB.out));(case side3=>repeat (first|exact (rd_ HO348.out).2.2|(with_reducible refine ca ?_ _)|(with_reducible refine cb ?_ _)|(with_reducible refine cc ?_)));(case side4=>exact (rd_ HO348.out).2.1);(case side5=>exact far_slice (IsS56.own_ne HI342.out HO348.out (by decide)));rintro e w19 ⟨v362,rfl,ho0,hi,hb,hk⟩;refine ⟨_,rfl,?_⟩;have n0_:=A_ (rm (Kd.R_told (Kd.R_oldK (IsS56.apart (show IsS56 w _ g342 t340 t357 from by repeat (first|(with_reducible first|exact HI342.out|apply IsS56.alloc|apply IsS56.drewN|apply IsS56.drew|apply IsS56.set_1)|exact HI342.out)) (by (with_reducible repeat (first|apply ra|apply rb|apply rc));exact HO348.out) (by decide)) hk) (rs ho0)) (fun _ h_=>h_.1));have n9_:=A_ (rm (Kd.R_told (Kd.R_oldK (IsS56.apart (show IsS56 w _ g342 t340 t357 from by repeat (first|(with_reducible first|exact HI342.out|apply IsS56.alloc|apply IsS56.drewN|apply IsS56.drew|apply IsS56.set_1)|exact HI342.out)) (by (with_reducible repeat (first|apply ra|apply rb|apply rc));exact HO345.out) (by decide)) hk) (rs ho0)) (fun _ h_=>h_.1));have n1_:=A_ (Kd.N_mono (Kd.N_told (Kd.N_oldK (Kd.N_mono (ok:=fun k_=>(nb k_ (.slice Ao18 t346.length co18)∧k_≠g342)) (by (with_reducible repeat (first|apply na|apply nd_|apply ne_));exact HO360.out) (fun k_ hk_=>(⟨hk_,hk_.2⟩ : _∧k_≠g342))) hk) (rs ho0)) (fun _ h_=>h_.1));have n2_:=A_ (Kd.R_lower (rn ho0 (rl (by (with_reducible repeat (first|apply ra|apply rb|apply rc));exact HO348.out))) (below_size (by repeat (first|(with_reducible first|exact HB.out|apply ba|apply bb|apply bc|refine below_set ?_ (IsS56.ge HI342.out))|exact HB.out))));have n3_:=A_ (hb);have n4_:=A_ (hi);clear HO348;clear HO345;clear HO360;clear HB;clear HI342;have HO345:=n9_;clear n9_;have HO348:=n0_;have HO360:=n1_;have HO363:=n2_;have HB:=n3_;have HI342:=n4_;clear n0_ n1_ n2_ n3_ n4_;(try clear hb);(try clear hb2);(try clear hk);(try clear hi);(try clear ho0))|((with_reducible refine gate_callee (f:=19) rfl ?_);refine goesL_ (some 36) rfl rfl Try.func19 (by kernel_rfl) rfl #[.pointer (some ⟨g342,0,none⟩),.slice Ao11 t343.length co11] rfl (by (try simp only [List.map_toArray,List.map_cons,List.map_nil]);first|done|rfl|(simp only [List.length_drop,List.length_take];rfl)) ?_;(with_reducible refine (shapesearchkeep_Src_Near.calls k g342 t340 t364 _ _ t343 t365 t368 w _ ?side1 ?side2 ?side3 ?side4 ?side5 A7.out).mono ?_);(case side1=>repeat (first|(with_reducible first|exact HI342.out|apply IsS56.alloc|apply IsS56.drewN|apply IsS56.drew|apply IsS56.set_1)|exact HI342.out));(case side2=>repeat (first|(with_reducible first|exact HB.out|apply ba|apply bb|apply bc|refine below_set ?_ (IsS56.ge HI342.out))|exact HB.out));(case side3=>repeat (first|exact (rd_ HO345.out).2.2|(with_reducible refine ca ?_ _)|(with_reducible refine cb ?_ _)|(with_reducible refine cc ?_)));(case side4=>exact (rd_ HO345.out).2.1);(case side5=>exact far_slice (IsS56.own_ne HI342.out HO345.out (by decide)));rintro e w20 ⟨v366,rfl,ho0,hi,hb,hk⟩;refine ⟨_,rfl,?_⟩;have n0_:=A_ (rm (Kd.R_told (Kd.R_oldK (IsS56.apart (show IsS56 w _ g342 t340 t364 from by repeat (first|(with_reducible first|exact HI342.out|apply IsS56.alloc|apply IsS56.drewN|apply IsS56.drew|apply IsS56.set_1)|exact HI342.out)) (by (with_reducible repeat (first|apply ra|apply rb|apply rc));exact HO348.out) (by decide)) hk) (rs ho0)) (fun _ h_=>h_.1));have n1_:=A_ (Kd.N_mono (Kd.N_told (Kd.N_oldK (Kd.N_mono (ok:=fun k_=>((nb k_ (.slice Ao18 t346.length co18)∧k_≠g342)∧nb k_ v362)) (by (with_reducible repeat (first|apply na|apply nd_|apply ne_));exact HO360.out) (fun k_ hk_=>(⟨hk_,hk_.1.2⟩ : _∧k_≠g342))) hk) (rs ho0)) (fun _ h_=>h_.1));have n2_:=A_ (rm (Kd.R_told (Kd.R_oldK (IsS56.apart (show IsS56 w _ g342 t340 t364 from by repeat (first|(with_reducible first|exact HI342.out|apply IsS56.alloc|apply IsS56.drewN|apply IsS56.drew|apply IsS56.set_1)|exact HI342.out)) (by (with_reducible repeat (first|apply ra|apply rb|apply rc));exact HO363.out) (by decide)) hk) (rs ho0)) (fun _ h_=>h_.1));have n3_:=A_ (Kd.R_lower (rn (rn ho0 (rl (by (with_reducible repeat (first|apply ra|apply rb|apply rc));exact HO348.out))) (rl (by (with_reducible repeat (first|apply ra|apply rb|apply rc));exact HO363.out))) (below_size (by repeat (first|(with_reducible first|exact HB.out|apply ba|apply bb|apply bc|refine below_set ?_ (IsS56.ge HI342.out))|exact HB.out))));have n4_:=A_ (hb);have n5_:=A_ (hi);clear HO345;clear HO348;clear HO360;clear HO363;clear HB;clear HI342;have HO348:=n0_;have HO360:=n1_;have HO363:=n2_;have HO367:=n3_;have HB:=n4_;have HI342:=n5_;clear n0_ n1_ n2_ n3_ n4_ n5_;(try clear hb);(try clear hb2);(try clear hk);(try clear hi);(try clear ho0);obtain ⟨Ao21,co21,eo21⟩:=Kd.R_slice HO363.out;subst eo21;obtain ⟨Ao22,co22,eo22⟩:=Kd.R_slice HO367.out;subst eo22)|((with_reducible refine gate_dst (N:=37) rfl ?_);refine Kd.N_lit (Kd.slice 3 (Kd.int .i64)) _ 22 ?hg (N':=37) ?hd (xs:=([t346,t361,t365] : List (List Int))) (inner:=[.slice Ao18 t346.length co18,.slice Ao21 t361.length co21,.slice Ao22 t365.length co22]) (ok:=(fun k_=>nb k_ v359∧k_≠g342)) (okp:=(fun k_=>nb k_ v359∧k_≠g342)) ?hr ?hp (fun _ hk=>hk) ((show ∀ k_,w20.heap.size ≤ k_ → (fun k_=>nb k_ v359∧k_≠g342) k_ from fun k_ hk=>⟨rh (Kd.N_lt (by (with_reducible repeat (first|apply na|apply nd_|apply ne_));exact HO360.out)) k_ hk,IsS56.fresh (by repeat (first|(with_reducible first|exact HI342.out|apply IsS56.alloc|apply IsS56.drewN|apply IsS56.drew|apply IsS56.set_1)|exact HI342.out)) k_ hk⟩) _ (Nat.le_refl _)) (Below.refl _ _) (Nat.le_refl _) (by simp) ?_;(case hd=>rfl);(case hg=>rfl);(case hr=>first|(go_simp;done)|(go_simp;rfl));(case hp=>exact (Reps.one (show Kd.FK (Kd.slice 3 (Kd.int .i64)) _ _ t346 [.slice Ao18 t346.length co18] from (Kd.FK_slice_mk (rd_ (rm (ok':=(fun k_=>nb k_ v359∧k_≠g342)) (IsS56.apart HI342.out (Kd.R_apart' (HO348.out) (Kd.N_typed HO360.out) (by decide)) (by decide)) (fun k_ hk=>⟨hk.1.2,hk.2⟩))).2.1 (Kd.R_F (rm (ok':=(fun k_=>nb k_ v359∧k_≠g342)) (IsS56.apart HI342.out (Kd.R_apart' (HO348.out) (Kd.N_typed HO360.out) (by decide)) (by decide)) (fun k_ hk=>⟨hk.1.2,hk.2⟩))))) (Reps.one (show Kd.FK (Kd.slice 3 (Kd.int .i64)) _ _ t361 [.slice Ao21 t361.length co21] from (Kd.FK_slice_mk (rd_ (rm (ok':=(fun k_=>nb k_ v359∧k_≠g342)) (IsS56.apart HI342.out (Kd.R_apart' (HO363.out) (Kd.N_typed HO360.out) (by decide)) (by decide)) (fun k_ hk=>⟨hk.1.2,hk.2⟩))).2.1 (Kd.R_F (rm (ok':=(fun k_=>nb k_ v359∧k_≠g342)) (IsS56.apart HI342.out (Kd.R_apart' (HO363.out) (Kd.N_typed HO360.out) (by decide)) (by decide)) (fun k_ hk=>⟨hk.1.2,hk.2⟩))))) (Reps.one (show Kd.FK (Kd.slice 3 (Kd.int .i64)) _ _ t365 [.slice Ao22 t365.length co22] from (Kd.FK_slice_mk (rd_ (rm (ok':=(fun k_=>nb k_ v359∧k_≠g342)) (IsS56.apart HI342.out (Kd.R_apart' (HO367.out) (Kd.N_typed HO360.out) (by decide)) (by decide)) (fun k_ hk=>⟨hk.1.2,hk.2⟩))).2.1 (Kd.R_F (rm (ok':=(fun k_=>nb k_ v359∧k_≠g342)) (IsS56.apart HI342.out (Kd.R_apart' (HO367.out) (Kd.N_typed HO360.out) (by decide)) (by decide)) (fun k_ hk=>⟨hk.1.2,hk.2⟩))))) (Reps.none _ _)))));intro v370 w23 ho24 hb hg_ hnew_;clear hg_ hnew_;(first|rw [← Ny369.out] at ho24|(simp only [Int.reduceToNat] at ho24;rw [← Ny369.out] at ho24));have n0_:=A_ (Kd.N_elder' (by (with_reducible repeat (first|apply na|apply nd_|apply ne_));exact HO360.out) (Kd.N_base ho24) hb);have n1_:=A_ (Kd.N_lower ho24 (below_size (by repeat (first|(with_reducible first|exact HB.out|apply ba|apply bb|apply bc|refine below_set ?_ (IsS56.ge HI342.out))|exact HB.out))));have n2_:=A_ (IsS56.below (by repeat (first|(with_reducible first|exact HI342.out|apply IsS56.alloc|apply IsS56.drewN|apply IsS56.drew|apply IsS56.set_1)|exact HI342.out)) hb);have n3_:=A_ (below_step (by repeat (first|(with_reducible first|exact HB.out|apply ba|apply bb|apply bc|refine below_set ?_ (IsS56.ge HI342.out))|exact HB.out)) hb);clear HO360;clear HI342;clear HB;clear HO348;clear HO363;clear HO367;have HO360:=n0_;have HO371:=n1_;have HI342:=n2_;have HB:=n3_;clear n0_ n1_ n2_ n3_;clear hb ho24;obtain ⟨Ao25,co25,eo25⟩:=Kd.N_slice HO360.out;subst eo25;obtain ⟨Ao26,co26,eo26⟩:=Kd.N_slice HO371.out;subst eo26)|((with_reducible refine gate_callee (f:=16) rfl ?_);refine goesL_ (some 41) rfl rfl Try.func16 (by kernel_rfl) rfl #[.slice Ao25 y358.length co25,.slice Ao26 y369.length co26] rfl (by (try simp only [List.map_toArray,List.map_cons,List.map_nil]);first|done|rfl|(simp only [List.length_drop,List.length_take];rfl)) ?_;(with_reducible refine (channels_Greatest.calls k _ _ y358 _ _ y369 t372 t373 t374 _ ?side1 ?side2 ?side3 ?side4 A8.out).mono ?_);(case side1=>repeat (first|exact (Kd.N_reads' HO360.out).2.2|(with_reducible refine ca ?_ _)|(with_reducible refine cb ?_ _)|(with_reducible refine cc ?_)));(case side2=>exact (Kd.N_reads' HO360.out).2.1);(case side3=>repeat (first|exact (Kd.N_reads' HO371.out).2.2|(with_reducible refine ca ?_ _)|(with_reducible refine cb ?_ _)|(with_reducible refine cc ?_)));(case side4=>exact (Kd.N_reads' HO371.out).2.1);rintro e w27 ⟨rfl,hb⟩;refine ⟨_,rfl,?_⟩;have n0_:=A_ (Kd.N_below (by (with_reducible repeat (first|apply na|apply nd_|apply ne_));exact HO360.out) hb);have n1_:=A_ (Kd.N_below (by (with_reducible repeat (first|apply na|apply nd_|apply ne_));exact HO371.out) hb);have n2_:=A_ (IsS56.below (by repeat (first|(with_reducible first|exact HI342.out|apply IsS56.alloc|apply IsS56.drewN|apply IsS56.drew|apply IsS56.set_1)|exact HI342.out)) hb);have n3_:=A_ (below_step (by repeat (first|(with_reducible first|exact HB.out|apply ba|apply bb|apply bc|refine below_set ?_ (IsS56.ge HI342.out))|exact HB.out)) hb);clear HO360;clear HO371;clear HI342;clear HB;have HO360:=n0_;have HO371:=n1_;have HI342:=n2_;have HB:=n3_;clear n0_ n1_ n2_ n3_;(try clear hb);(try clear hb2);(try clear hk);(try clear hi))|((with_reducible refine gate_dst (N:=8) rfl ?_);refine box_event ?hg (N:=8) ?hd (cs:=#[.int .i64 0,.int .i64 0]) (t:=36) ?hr ?_;(case hd=>rfl);(case hg=>rfl);(case hr=>first|(go_simp;done)|(go_simp;rfl));intro gb375 hg w28 hbox hb;have n0_:=A_ (Kd.N_below (Kd.N_elderB (by (with_reducible repeat (first|apply na|apply nd_|apply ne_));exact HO360.out) gb375 (Nat.le_of_eq hg.symm)) hb);have n1_:=A_ (Kd.N_below (Kd.N_elderB (by (with_reducible repeat (first|apply na|apply nd_|apply ne_));exact HO371.out) gb375 (Nat.le_of_eq hg.symm)) hb);have n2_:=A_ (IsS56.below (by repeat (first|(with_reducible first|exact HI342.out|apply IsS56.alloc|apply IsS56.drewN|apply IsS56.drew|apply IsS56.set_1)|exact HI342.out)) hb);have n3_:=A_ (below_step (by repeat (first|(with_reducible first|exact HB.out|apply ba|apply bb|apply bc|refine below_set ?_ (IsS56.ge HI342.out))|exact HB.out)) hb);have n4_:=A_ (hbox);have n5_:=A_ ((by rw [hg];exact (below_size (by repeat (first|(with_reducible first|exact HB.out|apply ba|apply bb|apply bc|refine below_set ?_ (IsS56.ge HI342.out))|exact HB.out))) : w.heap.size ≤ gb375));have n6_:=A_ ((by rw [hg];exact (below_size (by repeat (first|(with_reducible first|exact HB.out|apply ba|apply bb|apply bc|refine below_set ?_ (IsS56.ge HI342.out))|exact HB.out))) : w.heap.size ≤ gb375));have n7_:=A_ ((by rw [hg];exact Nat.ne_of_lt (IsS56.lt (show IsS56 w _ g342 t340 t368 from by repeat (first|(with_reducible first|exact HI342.out|apply IsS56.alloc|apply IsS56.drewN|apply IsS56.drew|apply IsS56.set_1)|exact HI342.out))) : g342≠gb375));have n8_:=A_ ((by rw [hg];exact Nat.ne_of_gt (IsS56.lt (show IsS56 w _ g342 t340 t368 from by repeat (first|(with_reducible first|exact HI342.out|apply IsS56.alloc|apply IsS56.drewN|apply IsS56.drew|apply IsS56.set_1)|exact HI342.out))) : gb375≠g342));clear HO360;clear HO371;clear HI342;clear HB;have HO360:=n0_;have HO371:=n1_;have HI342:=n2_;have HB:=n3_;have BK375:=n4_;have GW375:=n5_;have GE375:=n6_;have NB342_375:=n7_;have NB375_342:=n8_;clear n0_ n1_ n2_ n3_ n4_ n5_ n6_ n7_ n8_;clear hb hbox hg;have hnb29:=NB375_342.out;have hnc29:=NB342_375.out;have hcz30_0 : w28.cell? ⟨gb375,0,none⟩ = some (.int .i64 0):=(blk_cell BK375.out 0).trans rfl;have hcz30_1 : w28.cell? ⟨gb375,1,none⟩ = some (.int .i64 0):=(blk_cell BK375.out 1).trans rfl;have hfz30_0:=blk_frozen BK375.out 0;have hfz30_1:=blk_frozen BK375.out 1))
 go_loopg [10,46] k (fun kq v10 v46 w'=>∃ (x10_1 : Bool) (x46_1 : Int),v10 = .bool x10_1∧v46 = .int .i64 x46_1∧Aside0 (shapesearchlaw16_ChannelsGreatest.l0 kq y358 y369 t374 x10_1 (y358.length : Int) x46_1 t372 t373 = some r)∧Aside0 (kq ≤ k)∧Aside0 (Kd.N (Kd.slice 3 (Kd.int .i64)) 22 w' w.heap.size (fun k_=>some k_≠((.slice Ao26 y369.length co26) : Value).ownBlock∧k_≠gb375) (.slice Ao25 y358.length co25) y358)∧Aside0 (Kd.N (Kd.slice 3 (Kd.int .i64)) 22 w' w.heap.size (fun k_=>some k_≠((.slice Ao25 y358.length co25) : Value).ownBlock∧k_≠gb375) (.slice Ao26 y369.length co26) y369)∧Aside0 (w'.heap[gb375]? = some (.cells #[.int .i64 t372,.int .i64 t373] 36 (0,0)))∧Aside0 (Below w.heap.size w w'))
 case atStart=>exact ⟨(false),(0),(by first|rfl|(simp;done)|(simp [*];done)),(by first|rfl|(simp;done)|(simp [*];done)),H',⟨Nat.le_refl _⟩,⟨by (with_reducible repeat (first|apply na|apply nd_|apply ne_));exact Kd.N_mono (Kd.N_far (p:=⟨gb375,1,none⟩) (Kd.N_far (p:=⟨gb375,0,none⟩) (Kd.N_mono HO360.out (fun k_ hk=>(⟨hk,hk.2⟩ : _∧k_≠gb375))) (fun _ hk=>hk.2) (.int .i64 t372)) (fun _ hk=>hk.2) (.int .i64 t373)) (fun _ hk=>⟨hk.1.1.2,hk.1.2⟩)⟩,⟨by (with_reducible repeat (first|apply na|apply nd_|apply ne_));exact Kd.N_mono (Kd.N_far (p:=⟨gb375,1,none⟩) (Kd.N_far (p:=⟨gb375,0,none⟩) (Kd.N_mono HO371.out (fun k_ hk=>(⟨hk,hk.2⟩ : _∧k_≠gb375))) (fun _ hk=>hk.2) (.int .i64 t372)) (fun _ hk=>hk.2) (.int .i64 t373)) (fun _ hk=>⟨hk.1.1.1,hk.1.2⟩)⟩,⟨by (with_reducible repeat (first|refine blk_drewN ?_ _|refine blk_drew ?_|refine blk_alloc ?_ _));refine blk_put (cs:=#[.int .i64 t372,.int .i64 0]) ?_ 1 _ rfl;(with_reducible repeat (first|refine blk_drewN ?_ _|refine blk_drew ?_|refine blk_alloc ?_ _));refine blk_put (cs:=#[.int .i64 0,.int .i64 0]) ?_ 0 _ rfl;(with_reducible repeat (first|refine blk_drewN ?_ _|refine blk_drew ?_|refine blk_alloc ?_ _));exact BK375.out⟩,⟨by repeat (first|(with_reducible first|exact HB.out|apply ba|apply bb|apply bc|refine below_set ?_ (IsS56.ge HI342.out)|refine below_set ?_ GE375.out)|exact HB.out)⟩⟩
 case round =>
  clear H'
  try clear c1
  try clear c2
  try clear p2
  try clear c6
  try clear c10
  try clear c16
  try clear c18
  try clear c19
  try clear c20
  try clear c29
  try clear hcz30_0
  try clear hcz30_1
  try clear hfz30_0
  try clear hfz30_1
  obtain ⟨x10_1,x46_1,rfl,rfl,HA,HK1,HO_6,HO_7,BK375,HB⟩:=hrel
  cases gk with
  | zero=>exact absurd HA.out (by simp [shapesearchlaw16_ChannelsGreatest.l0])
  | succ k1 =>
   have H:=HA.out
   clear HA
   simp only [shapesearchlaw16_ChannelsGreatest.l0] at H
   by_cases c31 : x46_1 < (y358.length : Int)
   ·
    rw [if_pos c31] at H
    have c31b0 : decide (x46_1 < (y358.length : Int)) = true:=decide_eq_true c31
    clear c31
    by_cases c32 : 0 ≤ x46_1
    ·
     rw [if_pos c32] at H
     have c32b0 : decide (0 ≤ x46_1) = true:=decide_eq_true c32
     clear c32
     by_cases c33 : x46_1 < (y358.length : Int)
     ·
      rw [if_pos c33] at H
      have c33b0 : decide (x46_1 < (y358.length : Int)) = true:=decide_eq_true c33
      clear c33
      by_cases c34 : x46_1 < (y369.length : Int)
      ·
       rw [if_pos c34] at H
       have c34b0 : decide (x46_1 < (y369.length : Int)) = true:=decide_eq_true c34
       clear c34
       replace H:=Option.bind_eq_some_iff.mp H
       obtain ⟨⟨t379,t380,t381⟩,A350,H⟩:=H
       replace H : ((shapesearchref01_Less.f k1 t372 t373 t379 t380).bind fun t383=>(if t383 = true then (some false) else (if x10_1 = true then (shapesearchlaw16_ChannelsGreatest.l0 k1 y358 y369 t374 true (y358.length : Int) (wrap64 (x46_1 + 1)) t372 t373) else (shapesearchlaw16_ChannelsGreatest.l0 k1 y358 y369 t374 (t372 == t379 && (t373 == t380)) (y358.length : Int) (wrap64 (x46_1 + 1)) t372 t373)))) = some r:=H
       have A35:=A_ A350
       clear A350
       replace H:=Option.bind_eq_some_iff.mp H
       obtain ⟨t383,A360,H⟩:=H
       replace H : (if t383 = true then (some false) else (if x10_1 = true then (shapesearchlaw16_ChannelsGreatest.l0 k1 y358 y369 t374 true (y358.length : Int) (wrap64 (x46_1 + 1)) t372 t373) else (shapesearchlaw16_ChannelsGreatest.l0 k1 y358 y369 t374 (t372 == t379 && (t373 == t380)) (y358.length : Int) (wrap64 (x46_1 + 1)) t372 t373))) = some r:=H
       have A36:=A_ A360
       clear A360
       by_cases c37 : t383 = true
       ·
        subst c37
        have H1 : (some false) = some r:=by rw [if_pos rfl] at H;exact H
        clear H
        have H:=H1
        clear H1
        exact absurd ((Option.some.inj H).trans HTR_.out) (by decide)
       ·
        replace c37:=Bool.eq_false_iff.mpr c37
        subst c37
        have H1 : (if x10_1 = true then (shapesearchlaw16_ChannelsGreatest.l0 k1 y358 y369 t374 true (y358.length : Int) (wrap64 (x46_1 + 1)) t372 t373) else (shapesearchlaw16_ChannelsGreatest.l0 k1 y358 y369 t374 (t372 == t379 && (t373 == t380)) (y358.length : Int) (wrap64 (x46_1 + 1)) t372 t373)) = some r:=by rw [if_neg (show ¬ (false = true) by decide)] at H;exact H
        clear H
        have H:=H1
        clear H1
        have HC38:=A_ H
        clear H
        try go_wp2
        have n0_:=A_ (Kd.N_drew HO_6.out)
        have n1_:=A_ (Kd.N_drew HO_7.out)
        have n2_:=A_ (blk_drew BK375.out)
        have n3_:=A_ (below_drew1 HB.out)
        clear HO_6
        clear HO_7
        clear BK375
        clear HB
        have HO_6:=n0_
        have HO_7:=n1_
        have BK375:=n2_
        have HB:=n3_
        clear n0_ n1_ n2_ n3_
        have p377 : 0 ≤ (x46_1 : Int):=of_decide_eq_true (by first|(with_reducible assumption)|assumption)
        have q377 : x46_1 < (y358.length : Int):=of_decide_eq_true (by first|(with_reducible assumption)|assumption)
        obtain ⟨ad377,A377_0,c377_0,e377,hx377_0,hl377_0,hi377_0⟩:=at_L1 (Kd.N_reads' HO_6.out).2.2 x46_1 p377 q377
        cases e377
        obtain ⟨ce377,hce377,hMe377,hcc377⟩:=Kd.N_get HO_6.out [] x46_1 p377 (by first|exact q377|exact of_decide_eq_true (by first|(with_reducible assumption)|assumption)|(have e_:=(Kd.N_reads' HO_6.out).1;omega))
        obtain ⟨ua377_0,uc377_0,rfl,ul377_0,ge377_0⟩:=Kd.FK_slice_open hMe377
        have hv377_0:=hcc377 0 _ rfl
        rw [Nat.add_zero,show ((Kd.slice 3 (Kd.int .i64))).sz = 1 from rfl,Nat.mul_one] at hv377_0
        replace hv377_0:=Option.some.inj (hv377_0.symm.trans hx377_0)
        injection hv377_0 with hva_ hvn_ hvc_
        rw [hva_] at ge377_0
        rw [hvc_] at ul377_0
        have HL377_0:=A_ (show Kd.V (Kd.int .i64) 3 _ w.heap.size _ _ (rd_L1 y358 x46_1) from Kd.V_mk ul377_0 ge377_0)
        clear hva_ hvn_ hvc_ ge377_0 ul377_0
        clear hcc377 hce377
        have HR377_0:=A_ hi377_0
        have HC377_0:=A_ hl377_0
        clear hi377_0 hl377_0
        replace p377:=eq_true p377
        replace q377:=eq_true q377
        have p378 : 0 ≤ (x46_1 : Int):=of_decide_eq_true (by first|(with_reducible assumption)|assumption)
        have q378 : x46_1 < (y369.length : Int):=of_decide_eq_true (by first|(with_reducible assumption)|assumption)
        obtain ⟨ad378,A378_0,c378_0,e378,hx378_0,hl378_0,hi378_0⟩:=at_L1 (Kd.N_reads' HO_7.out).2.2 x46_1 p378 q378
        cases e378
        obtain ⟨ce378,hce378,hMe378,hcc378⟩:=Kd.N_get HO_7.out [] x46_1 p378 (by first|exact q378|exact of_decide_eq_true (by first|(with_reducible assumption)|assumption)|(have e_:=(Kd.N_reads' HO_7.out).1;omega))
        obtain ⟨ua378_0,uc378_0,rfl,ul378_0,ge378_0⟩:=Kd.FK_slice_open hMe378
        have hv378_0:=hcc378 0 _ rfl
        rw [Nat.add_zero,show ((Kd.slice 3 (Kd.int .i64))).sz = 1 from rfl,Nat.mul_one] at hv378_0
        replace hv378_0:=Option.some.inj (hv378_0.symm.trans hx378_0)
        injection hv378_0 with hva_ hvn_ hvc_
        rw [hva_] at ge378_0
        rw [hvc_] at ul378_0
        have HL378_0:=A_ (show Kd.V (Kd.int .i64) 3 _ w.heap.size _ _ (rd_L1 y369 x46_1) from Kd.V_mk ul378_0 ge378_0)
        clear hva_ hvn_ hvc_ ge378_0 ul378_0
        clear hcc378 hce378
        have HR378_0:=A_ hi378_0
        have HC378_0:=A_ hl378_0
        clear hi378_0 hl378_0
        replace p378:=eq_true p378
        replace q378:=eq_true q378
        refine start_ (n:=15) (S:=fun w'=>w'.cell? (ad377.add (x46_1).toNat) = some (.slice A377_0 (rd_L1 y358 x46_1).length c377_0)∧w'.cell? (ad378.add (x46_1).toNat) = some (.slice A378_0 (rd_L1 y369 x46_1).length c378_0)) (ds:=[]) #[false,false,false,false,false,false,false,false,false,false,false,false,false,false,false] (by kernel_rfl) rfl rfl ⟨hx377_0,hx378_0⟩ (fun hHeld=>?_);refine with_tabW shapesearchlaw16_ChannelsGreatest.tab9 shapesearchlaw16_ChannelsGreatest.bits9 (fun HT_ HW_=>?_)
        generalize wr.drew = w39 at HO_6 HO_7 BK375 HB HL377_0 HL378_0 HR377_0 HR378_0 hx377_0 hx378_0 hHeld ⊢
        refine pure_ (i:=0) (N:=some 50) (v:=?_) (a':=?_) #[true,false,false,false,false,false,false,false,false,false,false,false,false,false,false] rfl rfl (any_of HT_.out (by kernel_rfl)) (fun _ _ _ h=>h) (Or.inl ⟨by rfl,?_⟩) ?_ ?_
        rotate_left
        ·
         intro w'
         go_simp
         with_reducible rfl
        rotate_left
        ·
         simp only [Act.put,sa,sb,sc,i64_w,i32_w]
         rfl
        refine pure_ (i:=1) (N:=some 51) (v:=?_) (a':=?_) #[true,true,false,false,false,false,false,false,false,false,false,false,false,false,false] rfl rfl (any_of HT_.out (by kernel_rfl)) (fun _ _ _ h=>h) (Or.inl ⟨by rfl,?_⟩) ?_ ?_
        rotate_left
        ·
         intro w'
         go_simp
         with_reducible rfl
        rotate_left
        ·
         simp only [Act.put,sa,sb,sc,i64_w,i32_w]
         rfl
        refine pure_ (i:=2) (N:=some 52) (v:=?_) (a':=?_) #[true,true,true,false,false,false,false,false,false,false,false,false,false,false,false] rfl rfl (any_of HT_.out (by kernel_rfl)) (fun _ _ _ h=>h) (Or.inl ⟨by rfl,?_⟩) ?_ ?_
        rotate_left
        ·
         intro w'
         go_simp
         with_reducible rfl
        rotate_left
        ·
         simp only [Act.put,sa,sb,sc,i64_w,i32_w]
         rfl
        refine pure_ (i:=4) (N:=some 54) (v:=?_) (a':=?_) #[true,true,true,false,true,false,false,false,false,false,false,false,false,false,false] rfl rfl (any_of HT_.out (by kernel_rfl)) (fun _ _ _ h=>h) (Or.inl ⟨by rfl,?_⟩) ?_ ?_
        rotate_left
        ·
         intro w'
         go_simp
         with_reducible rfl
        rotate_left
        ·
         simp only [Act.put,sa,sb,sc,i64_w,i32_w]
         rfl
        refine pure_ (i:=5) (N:=some 55) (v:=?_) (a':=?_) #[true,true,true,false,true,true,false,false,false,false,false,false,false,false,false] rfl rfl (any_of HT_.out (by kernel_rfl)) (fun _ _ _ h=>h) (Or.inl ⟨by rfl,?_⟩) ?_ ?_
        rotate_left
        ·
         intro w'
         go_simp
         with_reducible rfl
        rotate_left
        ·
         simp only [Act.put,sa,sb,sc,i64_w,i32_w]
         rfl
        refine pure_ (i:=6) (N:=some 56) (v:=?_) (a':=?_) #[true,true,true,false,true,true,true,false,false,false,false,false,false,false,false] rfl rfl (any_of HT_.out (by kernel_rfl)) (fun _ _ _ h=>h) (Or.inl ⟨by rfl,?_⟩) ?_ ?_
        rotate_left
        ·
         intro w'
         go_simp
         with_reducible rfl
        rotate_left
        ·
         simp only [Act.put,sa,sb,sc,i64_w,i32_w]
         rfl
        refine take_ (i:=3) (N:=some 53) (v:=?_) (a':=?_) #[true,true,true,true,true,true,true,false,false,false,false,false,false,false,false] rfl rfl (take_ofW HT_.out HW_.out (by kernel_rfl)) (fun _ _ _ h=>h) (Or.inl ⟨by rfl,?_⟩) hHeld ?_ ?_
        rotate_left
        ·
         rintro w' ⟨s0,s1⟩
         go_simp
         with_reducible rfl
        rotate_left
        ·
         simp only [Act.put,sa,sb,sc,i64_w,i32_w]
         rfl
        refine take_ (i:=7) (N:=some 57) (v:=?_) (a':=?_) #[true,true,true,true,true,true,true,true,false,false,false,false,false,false,false] rfl rfl (take_ofW HT_.out HW_.out (by kernel_rfl)) (fun _ _ _ h=>h) (Or.inl ⟨by rfl,?_⟩) hHeld ?_ ?_
        rotate_left
        ·
         rintro w' ⟨s0,s1⟩
         go_simp
         with_reducible rfl
        rotate_left
        ·
         simp only [Act.put,sa,sb,sc,i64_w,i32_w]
         rfl
        refine join_ (σ:=Nat) 2 #[true,true,true,true,true,true,true,true,true,true,true,true,true,false,false] (fun s_=>[(58,.tuple #[.agg #[.int .i64 t379,.int .i64 t380],.int .i64 t381]),(12,.pointer (some ⟨s_,0,none⟩)),(49,.tuple #[.agg #[.int .i64 t379,.int .i64 t380],.int .i64 t381]),(59,.agg #[.int .i64 t379,.int .i64 t380]),(60,.int .i64 t381)]) (fun s_ w'=>(w'.cell? (ad377.add (x46_1).toNat) = some (.slice A377_0 (rd_L1 y358 x46_1).length c377_0)∧w'.cell? (ad378.add (x46_1).toNat) = some (.slice A378_0 (rd_L1 y369 x46_1).length c378_0))∧(Kd.V (Kd.int .i64) 3 w' w.heap.size (fun k_=>some k_≠(.slice (some ad377) y358.length co25 : Value).ownBlock∧some k_≠(.slice (some ad378) y369.length co26 : Value).ownBlock∧k_≠gb375∧k_≠s_) (.slice A377_0 (rd_L1 y358 x46_1).length c377_0) (rd_L1 y358 x46_1))∧(Kd.V (Kd.int .i64) 3 w' w.heap.size (fun k_=>some k_≠(.slice (some ad377) y358.length co25 : Value).ownBlock∧some k_≠(.slice (some ad378) y369.length co26 : Value).ownBlock∧k_≠gb375∧k_≠s_) (.slice A378_0 (rd_L1 y369 x46_1).length c378_0) (rd_L1 y369 x46_1))∧(Kd.N (Kd.slice 3 (Kd.int .i64)) 22 w' w.heap.size (fun k_=>some k_≠(.slice (some ad378) y369.length co26 : Value).ownBlock∧k_≠gb375∧k_≠s_) (.slice (some ad377) y358.length co25) y358)∧(Kd.N (Kd.slice 3 (Kd.int .i64)) 22 w' w.heap.size (fun k_=>some k_≠(.slice (some ad377) y358.length co25 : Value).ownBlock∧k_≠gb375∧k_≠s_) (.slice (some ad378) y369.length co26) y369)∧(w'.heap[gb375]? = some (.cells #[.int .i64 t372,.int .i64 t373] 36 (0,0)))∧(w'.heap[s_]? = some (.cells #[.int .i64 0,.int .i64 0] 36 (0,0)))∧(w.heap.size ≤ s_)∧(w.heap.size ≤ s_)∧(gb375≠s_)∧(s_≠gb375)∧(Below w.heap.size w w')) ?_ ?_
        rotate_left
        ·
         intro hCont
         refine two_ (i:=8) (j:=12) (Ni:=some 58) (Nj:=some 12) #[true,true,true,true,true,true,true,true,true,false,false,false,false,false,false] #[true,true,true,true,true,true,true,true,false,false,false,false,true,false,false] rfl rfl rfl rfl (two_of HT_.out (by kernel_rfl)) (by decide) (by decide) (fun K hK=>?_) (fun K hK=>?_)
         ·
          skip
          refine goes_ Try.func21 (by kernel_rfl) rfl #[.slice A377_0 (rd_L1 y358 x46_1).length c377_0,.slice A378_0 (rd_L1 y369 x46_1).length c378_0] (by rfl) rfl rfl (by (try simp only [List.map_toArray,List.map_cons,List.map_nil]);first|done|rfl|(simp only [List.length_drop,List.length_take];rfl)) ?_
          with_reducible refine (shapesearchref13_Gap.calls k1 _ _ (rd_L1 y358 x46_1) _ _ (rd_L1 y369 x46_1) t379 t380 t381 _ ?side1 ?side2 ?side3 ?side4 A35.out).mono ?_
          (case side1=>repeat (first|exact (by repeat (first|(with_reducible exact HR377_0.out)|(with_reducible refine ca ?_ _)|(with_reducible refine cb ?_ _)|(with_reducible refine cc ?_)|exact HR377_0.out))|(with_reducible refine ca ?_ _)|(with_reducible refine cb ?_ _)|(with_reducible refine cc ?_)))
          (case side2=>exact HC377_0.out)
          (case side3=>repeat (first|exact (by repeat (first|(with_reducible exact HR378_0.out)|(with_reducible refine ca ?_ _)|(with_reducible refine cb ?_ _)|(with_reducible refine cc ?_)|exact HR378_0.out))|(with_reducible refine ca ?_ _)|(with_reducible refine cb ?_ _)|(with_reducible refine cc ?_)))
          (case side4=>exact HC378_0.out)
          rintro e w40 ⟨rfl,hb⟩
          have HS0_:=(hb.cell (World.block_lt_of_cell? _ _ (hHeld.1))).trans (hHeld.1)
          have HS1_:=(hb.cell (World.block_lt_of_cell? _ _ (hHeld.2))).trans (hHeld.2)
          refine ⟨_,rfl,?_⟩
          have n0_:=A_ (Kd.N_below (by (with_reducible repeat (first|apply na|apply nd_|apply ne_));exact HO_6.out) hb)
          have n1_:=A_ (Kd.N_below (by (with_reducible repeat (first|apply na|apply nd_|apply ne_));exact HO_7.out) hb)
          have n2_:=A_ (Kd.V_below (by (with_reducible repeat (first|apply Kd.V_alloc|apply Kd.V_drewN|apply Kd.V_drew));exact HL377_0.out) hb)
          have n3_:=A_ (Kd.V_below (by (with_reducible repeat (first|apply Kd.V_alloc|apply Kd.V_drewN|apply Kd.V_drew));exact HL378_0.out) hb)
          have n4_:=A_ (blk_below (g:=gb375) (o:=.cells #[.int .i64 t372,.int .i64 t373] 36 (0,0)) (by (with_reducible repeat (first|refine blk_drewN ?_ _|refine blk_drew ?_|refine blk_alloc ?_ _));exact BK375.out) hb)
          have n5_:=A_ (cl (by repeat (first|(with_reducible exact HR377_0.out)|(with_reducible refine ca ?_ _)|(with_reducible refine cb ?_ _)|(with_reducible refine cc ?_)|exact HR377_0.out)) hb)
          have n6_:=A_ (cl (by repeat (first|(with_reducible exact HR378_0.out)|(with_reducible refine ca ?_ _)|(with_reducible refine cb ?_ _)|(with_reducible refine cc ?_)|exact HR378_0.out)) hb)
          have n7_:=A_ (below_step (by repeat (first|(with_reducible first|exact HB.out|apply ba|apply bb|apply bc|refine below_set ?_ GE375.out)|exact HB.out)) hb)
          clear HO_6
          clear HO_7
          clear HL377_0
          clear HL378_0
          clear BK375
          clear HR377_0
          clear HR378_0
          clear HB
          have HO_6:=n0_
          have HO_7:=n1_
          have HL377_0:=n2_
          have HL378_0:=n3_
          have BK375:=n4_
          have HR377_0:=n5_
          have HR378_0:=n6_
          have HB:=n7_
          clear n0_ n1_ n2_ n3_ n4_ n5_ n6_ n7_
          (try clear hb)
          (try clear hb2)
          (try clear hk)
          (try clear hi)
          refine hK.out _ _ ⟨HS0_,HS1_⟩ (fun hHeld=>?_)
          clear hK K
          refine norm_ (a':=?_) ?_ ?_
          rotate_left
          ·
           show Act.put _ (some 58) _ = _
           simp only [Act.put,sa,sb,sc,i64_w,i32_w]
           rfl
          refine pure_ (i:=9) (N:=some 49) (v:=?_) (a':=?_) #[true,true,true,true,true,true,true,true,true,true,false,false,false,false,false] rfl rfl (any_of HT_.out (by kernel_rfl)) (fun _ _ _ h=>h) (Or.inl ⟨by rfl,?_⟩) ?_ ?_
          rotate_left
          ·
           intro w'
           go_simp
           with_reducible rfl
          rotate_left
          ·
           simp only [Act.put,sa,sb,sc,i64_w,i32_w]
           rfl
          refine pure_ (i:=10) (N:=some 59) (v:=?_) (a':=?_) #[true,true,true,true,true,true,true,true,true,true,true,false,false,false,false] rfl rfl (any_of HT_.out (by kernel_rfl)) (fun _ _ _ h=>h) (Or.inl ⟨by rfl,?_⟩) ?_ ?_
          rotate_left
          ·
           intro w'
           go_simp
           with_reducible rfl
          rotate_left
          ·
           simp only [Act.put,sa,sb,sc,i64_w,i32_w]
           rfl
          refine pure_ (i:=11) (N:=some 60) (v:=?_) (a':=?_) #[true,true,true,true,true,true,true,true,true,true,true,true,false,false,false] rfl rfl (any_of HT_.out (by kernel_rfl)) (fun _ _ _ h=>h) (Or.inl ⟨by rfl,?_⟩) ?_ ?_
          rotate_left
          ·
           intro w'
           go_simp
           with_reducible rfl
          rotate_left
          ·
           simp only [Act.put,sa,sb,sc,i64_w,i32_w]
           rfl
          refine one_ (i:=12) (N:=some 12) #[true,true,true,true,true,true,true,true,true,true,true,true,true,false,false] rfl rfl (one_of HT_.out (by kernel_rfl)) (by decide) (fun K hK=>?_)
          refine box_step ?hg (N:=12) ?hd (cs:=#[.int .i64 0,.int .i64 0]) (t:=36) ?hr ?_;(case hd=>rfl);(case hg=>rfl);(case hr=>first|(go_simp;done)|(go_simp;rfl))
          intro gb382 hg w41 hbox hb
          have HS0_:=(hb.cell (World.block_lt_of_cell? _ _ (hHeld.1))).trans (hHeld.1)
          have HS1_:=(hb.cell (World.block_lt_of_cell? _ _ (hHeld.2))).trans (hHeld.2)
          have n0_:=A_ (Kd.N_below (Kd.N_elderB (by (with_reducible repeat (first|apply na|apply nd_|apply ne_));exact HO_6.out) gb382 (Nat.le_of_eq hg.symm)) hb)
          have n1_:=A_ (Kd.N_below (Kd.N_elderB (by (with_reducible repeat (first|apply na|apply nd_|apply ne_));exact HO_7.out) gb382 (Nat.le_of_eq hg.symm)) hb)
          have n2_:=A_ (Kd.V_below (Kd.V_elderB (by (with_reducible repeat (first|apply Kd.V_alloc|apply Kd.V_drewN|apply Kd.V_drew));exact HL377_0.out) gb382 (Nat.le_of_eq hg.symm)) hb)
          have n3_:=A_ (Kd.V_below (Kd.V_elderB (by (with_reducible repeat (first|apply Kd.V_alloc|apply Kd.V_drewN|apply Kd.V_drew));exact HL378_0.out) gb382 (Nat.le_of_eq hg.symm)) hb)
          have n4_:=A_ (blk_below (g:=gb375) (o:=.cells #[.int .i64 t372,.int .i64 t373] 36 (0,0)) (by (with_reducible repeat (first|refine blk_drewN ?_ _|refine blk_drew ?_|refine blk_alloc ?_ _));exact BK375.out) hb)
          have n5_:=A_ (cl (by repeat (first|(with_reducible exact HR377_0.out)|(with_reducible refine ca ?_ _)|(with_reducible refine cb ?_ _)|(with_reducible refine cc ?_)|exact HR377_0.out)) hb)
          have n6_:=A_ (cl (by repeat (first|(with_reducible exact HR378_0.out)|(with_reducible refine ca ?_ _)|(with_reducible refine cb ?_ _)|(with_reducible refine cc ?_)|exact HR378_0.out)) hb)
          have n7_:=A_ (below_step (by repeat (first|(with_reducible first|exact HB.out|apply ba|apply bb|apply bc|refine below_set ?_ GE375.out)|exact HB.out)) hb)
          have n8_:=A_ (hbox)
          have n9_:=A_ ((by rw [hg];exact (below_size (by repeat (first|(with_reducible first|exact HB.out|apply ba|apply bb|apply bc|refine below_set ?_ GE375.out)|exact HB.out))) : w.heap.size ≤ gb382))
          have n10_:=A_ ((by rw [hg];exact (below_size (by repeat (first|(with_reducible first|exact HB.out|apply ba|apply bb|apply bc|refine below_set ?_ GE375.out)|exact HB.out))) : w.heap.size ≤ gb382))
          have n11_:=A_ ((by rw [hg];exact Nat.ne_of_lt (blk_lt (g:=gb375) (o:=.cells #[.int .i64 t372,.int .i64 t373] 36 (0,0)) (by (with_reducible repeat (first|refine blk_drewN ?_ _|refine blk_drew ?_|refine blk_alloc ?_ _));exact BK375.out)) : gb375≠gb382))
          have n12_:=A_ ((by rw [hg];exact Nat.ne_of_gt (blk_lt (g:=gb375) (o:=.cells #[.int .i64 t372,.int .i64 t373] 36 (0,0)) (by (with_reducible repeat (first|refine blk_drewN ?_ _|refine blk_drew ?_|refine blk_alloc ?_ _));exact BK375.out)) : gb382≠gb375))
          have n13_:=A_ (CF.new (by repeat (first|(with_reducible exact HR377_0.out)|(with_reducible refine ca ?_ _)|(with_reducible refine cb ?_ _)|(with_reducible refine cc ?_)|exact HR377_0.out)) hg hb)
          have n14_:=A_ (CF.new (by repeat (first|(with_reducible exact HR378_0.out)|(with_reducible refine ca ?_ _)|(with_reducible refine cb ?_ _)|(with_reducible refine cc ?_)|exact HR378_0.out)) hg hb)
          clear HO_6
          clear HO_7
          clear HL377_0
          clear HL378_0
          clear BK375
          clear HR377_0
          clear HR378_0
          clear HB
          have HO_6:=n0_
          have HO_7:=n1_
          have HL377_0:=n2_
          have HL378_0:=n3_
          have BK375:=n4_
          have HR377_0:=n5_
          have HR378_0:=n6_
          have HB:=n7_
          have BK382:=n8_
          have GW382:=n9_
          have GE382:=n10_
          have NB375_382:=n11_
          have NB382_375:=n12_
          have HZ377_0_382:=n13_
          have HZ378_0_382:=n14_
          clear n0_ n1_ n2_ n3_ n4_ n5_ n6_ n7_ n8_ n9_ n10_ n11_ n12_ n13_ n14_
          clear hb hbox hg
          refine hK.out _ _ ⟨HS0_,HS1_⟩ (fun hHeld=>?_)
          clear hK K
          refine norm_ (a':=?_) ?_ ?_
          rotate_left
          ·
           show Act.put _ (some 12) _ = _
           simp only [Act.put,sa,sb,sc,i64_w,i32_w]
           rfl
          exact norm_ (by simp only [putAll,Act.put,List.setIfInBounds_toArray,List.set_cons_zero,List.set_cons_succ]) (hCont (gb382) _ ⟨hHeld,(by (with_reducible repeat (first|apply Kd.V_alloc|apply Kd.V_drewN|apply Kd.V_drew));exact Kd.V_mono HL377_0.out (fun _ hk=>⟨hk.1.2,⟨hk.1.1.1,⟨hk.1.1.2,hk.2⟩⟩⟩)),(by (with_reducible repeat (first|apply Kd.V_alloc|apply Kd.V_drewN|apply Kd.V_drew));exact Kd.V_mono HL378_0.out (fun _ hk=>⟨hk.1.1.1,⟨hk.1.2,⟨hk.1.1.2,hk.2⟩⟩⟩)),(by (with_reducible repeat (first|apply na|apply nd_|apply ne_));exact Kd.N_mono HO_6.out (fun _ hk=>⟨hk.1.1,⟨hk.1.2,hk.2⟩⟩)),(by (with_reducible repeat (first|apply na|apply nd_|apply ne_));exact Kd.N_mono HO_7.out (fun _ hk=>⟨hk.1.1,⟨hk.1.2,hk.2⟩⟩)),(by (with_reducible repeat (first|refine blk_drewN ?_ _|refine blk_drew ?_|refine blk_alloc ?_ _));exact BK375.out),(by (with_reducible repeat (first|refine blk_drewN ?_ _|refine blk_drew ?_|refine blk_alloc ?_ _));exact BK382.out),GW382.out,GE382.out,NB375_382.out,NB382_375.out,(by repeat (first|(with_reducible first|exact HB.out|apply ba|apply bb|apply bc|refine below_set ?_ GE375.out|refine below_set ?_ GE382.out)|exact HB.out))⟩)
         ·
          skip
          refine box_step ?hg (N:=12) ?hd (cs:=#[.int .i64 0,.int .i64 0]) (t:=36) ?hr ?_;(case hd=>rfl);(case hg=>rfl);(case hr=>first|(go_simp;done)|(go_simp;rfl))
          intro gb382 hg w40 hbox hb
          have HS0_:=(hb.cell (World.block_lt_of_cell? _ _ (hHeld.1))).trans (hHeld.1)
          have HS1_:=(hb.cell (World.block_lt_of_cell? _ _ (hHeld.2))).trans (hHeld.2)
          have n0_:=A_ (Kd.N_below (Kd.N_elderB (by (with_reducible repeat (first|apply na|apply nd_|apply ne_));exact HO_6.out) gb382 (Nat.le_of_eq hg.symm)) hb)
          have n1_:=A_ (Kd.N_below (Kd.N_elderB (by (with_reducible repeat (first|apply na|apply nd_|apply ne_));exact HO_7.out) gb382 (Nat.le_of_eq hg.symm)) hb)
          have n2_:=A_ (Kd.V_below (Kd.V_elderB (by (with_reducible repeat (first|apply Kd.V_alloc|apply Kd.V_drewN|apply Kd.V_drew));exact HL377_0.out) gb382 (Nat.le_of_eq hg.symm)) hb)
          have n3_:=A_ (Kd.V_below (Kd.V_elderB (by (with_reducible repeat (first|apply Kd.V_alloc|apply Kd.V_drewN|apply Kd.V_drew));exact HL378_0.out) gb382 (Nat.le_of_eq hg.symm)) hb)
          have n4_:=A_ (blk_below (g:=gb375) (o:=.cells #[.int .i64 t372,.int .i64 t373] 36 (0,0)) (by (with_reducible repeat (first|refine blk_drewN ?_ _|refine blk_drew ?_|refine blk_alloc ?_ _));exact BK375.out) hb)
          have n5_:=A_ (cl (by repeat (first|(with_reducible exact HR377_0.out)|(with_reducible refine ca ?_ _)|(with_reducible refine cb ?_ _)|(with_reducible refine cc ?_)|exact HR377_0.out)) hb)
          have n6_:=A_ (cl (by repeat (first|(with_reducible exact HR378_0.out)|(with_reducible refine ca ?_ _)|(with_reducible refine cb ?_ _)|(with_reducible refine cc ?_)|exact HR378_0.out)) hb)
          have n7_:=A_ (below_step (by repeat (first|(with_reducible first|exact HB.out|apply ba|apply bb|apply bc|refine below_set ?_ GE375.out)|exact HB.out)) hb)
          have n8_:=A_ (hbox)
          have n9_:=A_ ((by rw [hg];exact (below_size (by repeat (first|(with_reducible first|exact HB.out|apply ba|apply bb|apply bc|refine below_set ?_ GE375.out)|exact HB.out))) : w.heap.size ≤ gb382))
          have n10_:=A_ ((by rw [hg];exact (below_size (by repeat (first|(with_reducible first|exact HB.out|apply ba|apply bb|apply bc|refine below_set ?_ GE375.out)|exact HB.out))) : w.heap.size ≤ gb382))
          have n11_:=A_ ((by rw [hg];exact Nat.ne_of_lt (blk_lt (g:=gb375) (o:=.cells #[.int .i64 t372,.int .i64 t373] 36 (0,0)) (by (with_reducible repeat (first|refine blk_drewN ?_ _|refine blk_drew ?_|refine blk_alloc ?_ _));exact BK375.out)) : gb375≠gb382))
          have n12_:=A_ ((by rw [hg];exact Nat.ne_of_gt (blk_lt (g:=gb375) (o:=.cells #[.int .i64 t372,.int .i64 t373] 36 (0,0)) (by (with_reducible repeat (first|refine blk_drewN ?_ _|refine blk_drew ?_|refine blk_alloc ?_ _));exact BK375.out)) : gb382≠gb375))
          have n13_:=A_ (CF.new (by repeat (first|(with_reducible exact HR377_0.out)|(with_reducible refine ca ?_ _)|(with_reducible refine cb ?_ _)|(with_reducible refine cc ?_)|exact HR377_0.out)) hg hb)
          have n14_:=A_ (CF.new (by repeat (first|(with_reducible exact HR378_0.out)|(with_reducible refine ca ?_ _)|(with_reducible refine cb ?_ _)|(with_reducible refine cc ?_)|exact HR378_0.out)) hg hb)
          clear HO_6
          clear HO_7
          clear HL377_0
          clear HL378_0
          clear BK375
          clear HR377_0
          clear HR378_0
          clear HB
          have HO_6:=n0_
          have HO_7:=n1_
          have HL377_0:=n2_
          have HL378_0:=n3_
          have BK375:=n4_
          have HR377_0:=n5_
          have HR378_0:=n6_
          have HB:=n7_
          have BK382:=n8_
          have GW382:=n9_
          have GE382:=n10_
          have NB375_382:=n11_
          have NB382_375:=n12_
          have HZ377_0_382:=n13_
          have HZ378_0_382:=n14_
          clear n0_ n1_ n2_ n3_ n4_ n5_ n6_ n7_ n8_ n9_ n10_ n11_ n12_ n13_ n14_
          clear hb hbox hg
          refine hK.out _ _ ⟨HS0_,HS1_⟩ (fun hHeld=>?_)
          clear hK K
          refine norm_ (a':=?_) ?_ ?_
          rotate_left
          ·
           show Act.put _ (some 12) _ = _
           simp only [Act.put,sa,sb,sc,i64_w,i32_w]
           rfl
          refine one_ (i:=8) (N:=some 58) #[true,true,true,true,true,true,true,true,true,false,false,false,true,false,false] rfl rfl (one_of HT_.out (by kernel_rfl)) (by decide) (fun K hK=>?_)
          refine goes_ Try.func21 (by kernel_rfl) rfl #[.slice A377_0 (rd_L1 y358 x46_1).length c377_0,.slice A378_0 (rd_L1 y369 x46_1).length c378_0] (by rfl) rfl rfl (by (try simp only [List.map_toArray,List.map_cons,List.map_nil]);first|done|rfl|(simp only [List.length_drop,List.length_take];rfl)) ?_
          with_reducible refine (shapesearchref13_Gap.calls k1 _ _ (rd_L1 y358 x46_1) _ _ (rd_L1 y369 x46_1) t379 t380 t381 _ ?side1 ?side2 ?side3 ?side4 A35.out).mono ?_
          (case side1=>repeat (first|exact (by repeat (first|(with_reducible exact HR377_0.out)|(with_reducible refine ca ?_ _)|(with_reducible refine cb ?_ _)|(with_reducible refine cc ?_)|exact HR377_0.out))|(with_reducible refine ca ?_ _)|(with_reducible refine cb ?_ _)|(with_reducible refine cc ?_)))
          (case side2=>exact HC377_0.out)
          (case side3=>repeat (first|exact (by repeat (first|(with_reducible exact HR378_0.out)|(with_reducible refine ca ?_ _)|(with_reducible refine cb ?_ _)|(with_reducible refine cc ?_)|exact HR378_0.out))|(with_reducible refine ca ?_ _)|(with_reducible refine cb ?_ _)|(with_reducible refine cc ?_)))
          (case side4=>exact HC378_0.out)
          rintro e w41 ⟨rfl,hb⟩
          have HS0_:=(hb.cell (World.block_lt_of_cell? _ _ (hHeld.1))).trans (hHeld.1)
          have HS1_:=(hb.cell (World.block_lt_of_cell? _ _ (hHeld.2))).trans (hHeld.2)
          refine ⟨_,rfl,?_⟩
          have n0_:=A_ (Kd.N_below (by (with_reducible repeat (first|apply na|apply nd_|apply ne_));exact HO_6.out) hb)
          have n1_:=A_ (Kd.N_below (by (with_reducible repeat (first|apply na|apply nd_|apply ne_));exact HO_7.out) hb)
          have n2_:=A_ (Kd.V_below (by (with_reducible repeat (first|apply Kd.V_alloc|apply Kd.V_drewN|apply Kd.V_drew));exact HL377_0.out) hb)
          have n3_:=A_ (Kd.V_below (by (with_reducible repeat (first|apply Kd.V_alloc|apply Kd.V_drewN|apply Kd.V_drew));exact HL378_0.out) hb)
          have n4_:=A_ (blk_below (g:=gb375) (o:=.cells #[.int .i64 t372,.int .i64 t373] 36 (0,0)) (by (with_reducible repeat (first|refine blk_drewN ?_ _|refine blk_drew ?_|refine blk_alloc ?_ _));exact BK375.out) hb)
          have n5_:=A_ (cl (by repeat (first|(with_reducible exact HR377_0.out)|(with_reducible refine ca ?_ _)|(with_reducible refine cb ?_ _)|(with_reducible refine cc ?_)|exact HR377_0.out)) hb)
          have n6_:=A_ (cl (by repeat (first|(with_reducible exact HR378_0.out)|(with_reducible refine ca ?_ _)|(with_reducible refine cb ?_ _)|(with_reducible refine cc ?_)|exact HR378_0.out)) hb)
          have n7_:=A_ (blk_below (g:=gb382) (o:=.cells #[.int .i64 0,.int .i64 0] 36 (0,0)) (by (with_reducible repeat (first|refine blk_drewN ?_ _|refine blk_drew ?_|refine blk_alloc ?_ _));exact BK382.out) hb)
          have n8_:=A_ (below_step (by repeat (first|(with_reducible first|exact HB.out|apply ba|apply bb|apply bc|refine below_set ?_ GE375.out|refine below_set ?_ GE382.out)|exact HB.out)) hb)
          clear HO_6
          clear HO_7
          clear HL377_0
          clear HL378_0
          clear BK375
          clear HR377_0
          clear HR378_0
          clear BK382
          clear HB
          have HO_6:=n0_
          have HO_7:=n1_
          have HL377_0:=n2_
          have HL378_0:=n3_
          have BK375:=n4_
          have HR377_0:=n5_
          have HR378_0:=n6_
          have BK382:=n7_
          have HB:=n8_
          clear n0_ n1_ n2_ n3_ n4_ n5_ n6_ n7_ n8_
          (try clear hb)
          (try clear hb2)
          (try clear hk)
          (try clear hi)
          refine hK.out _ _ ⟨HS0_,HS1_⟩ (fun hHeld=>?_)
          clear hK K
          refine norm_ (a':=?_) ?_ ?_
          rotate_left
          ·
           show Act.put _ (some 58) _ = _
           simp only [Act.put,sa,sb,sc,i64_w,i32_w]
           rfl
          refine pure_ (i:=9) (N:=some 49) (v:=?_) (a':=?_) #[true,true,true,true,true,true,true,true,true,true,false,false,true,false,false] rfl rfl (any_of HT_.out (by kernel_rfl)) (fun _ _ _ h=>h) (Or.inl ⟨by rfl,?_⟩) ?_ ?_
          rotate_left
          ·
           intro w'
           go_simp
           with_reducible rfl
          rotate_left
          ·
           simp only [Act.put,sa,sb,sc,i64_w,i32_w]
           rfl
          refine pure_ (i:=10) (N:=some 59) (v:=?_) (a':=?_) #[true,true,true,true,true,true,true,true,true,true,true,false,true,false,false] rfl rfl (any_of HT_.out (by kernel_rfl)) (fun _ _ _ h=>h) (Or.inl ⟨by rfl,?_⟩) ?_ ?_
          rotate_left
          ·
           intro w'
           go_simp
           with_reducible rfl
          rotate_left
          ·
           simp only [Act.put,sa,sb,sc,i64_w,i32_w]
           rfl
          refine pure_ (i:=11) (N:=some 60) (v:=?_) (a':=?_) #[true,true,true,true,true,true,true,true,true,true,true,true,true,false,false] rfl rfl (any_of HT_.out (by kernel_rfl)) (fun _ _ _ h=>h) (Or.inl ⟨by rfl,?_⟩) ?_ ?_
          rotate_left
          ·
           intro w'
           go_simp
           with_reducible rfl
          rotate_left
          ·
           simp only [Act.put,sa,sb,sc,i64_w,i32_w]
           rfl
          exact norm_ (by simp only [putAll,Act.put,List.setIfInBounds_toArray,List.set_cons_zero,List.set_cons_succ]) (hCont (gb382) _ ⟨hHeld,(by (with_reducible repeat (first|apply Kd.V_alloc|apply Kd.V_drewN|apply Kd.V_drew));exact Kd.V_mono HL377_0.out (fun _ hk=>⟨hk.1.2,⟨hk.1.1.1,⟨hk.1.1.2,hk.2⟩⟩⟩)),(by (with_reducible repeat (first|apply Kd.V_alloc|apply Kd.V_drewN|apply Kd.V_drew));exact Kd.V_mono HL378_0.out (fun _ hk=>⟨hk.1.1.1,⟨hk.1.2,⟨hk.1.1.2,hk.2⟩⟩⟩)),(by (with_reducible repeat (first|apply na|apply nd_|apply ne_));exact Kd.N_mono HO_6.out (fun _ hk=>⟨hk.1.1,⟨hk.1.2,hk.2⟩⟩)),(by (with_reducible repeat (first|apply na|apply nd_|apply ne_));exact Kd.N_mono HO_7.out (fun _ hk=>⟨hk.1.1,⟨hk.1.2,hk.2⟩⟩)),(by (with_reducible repeat (first|refine blk_drewN ?_ _|refine blk_drew ?_|refine blk_alloc ?_ _));exact BK375.out),(by (with_reducible repeat (first|refine blk_drewN ?_ _|refine blk_drew ?_|refine blk_alloc ?_ _));exact BK382.out),GW382.out,GE382.out,NB375_382.out,NB382_375.out,(by repeat (first|(with_reducible first|exact HB.out|apply ba|apply bb|apply bc|refine below_set ?_ GE375.out|refine below_set ?_ GE382.out)|exact HB.out))⟩)
        rintro gb382 w42 ⟨hS_,h0_,h1_,h2_,h3_,h4_,h5_,h6_,h7_,h8_,h9_,h10_⟩
        have n0_ : Aside0 (Kd.V (Kd.int .i64) 3 w42 w.heap.size (fun k_=>some k_≠(.slice (some ad377) y358.length co25 : Value).ownBlock∧some k_≠(.slice (some ad378) y369.length co26 : Value).ownBlock∧k_≠gb375∧k_≠gb382) (.slice A377_0 (rd_L1 y358 x46_1).length c377_0) (rd_L1 y358 x46_1)):=⟨h0_⟩
        have n1_ : Aside0 (Kd.V (Kd.int .i64) 3 w42 w.heap.size (fun k_=>some k_≠(.slice (some ad377) y358.length co25 : Value).ownBlock∧some k_≠(.slice (some ad378) y369.length co26 : Value).ownBlock∧k_≠gb375∧k_≠gb382) (.slice A378_0 (rd_L1 y369 x46_1).length c378_0) (rd_L1 y369 x46_1)):=⟨h1_⟩
        have n2_ : Aside0 (Kd.N (Kd.slice 3 (Kd.int .i64)) 22 w42 w.heap.size (fun k_=>some k_≠(.slice (some ad378) y369.length co26 : Value).ownBlock∧k_≠gb375∧k_≠gb382) (.slice (some ad377) y358.length co25) y358):=⟨h2_⟩
        have n3_ : Aside0 (Kd.N (Kd.slice 3 (Kd.int .i64)) 22 w42 w.heap.size (fun k_=>some k_≠(.slice (some ad377) y358.length co25 : Value).ownBlock∧k_≠gb375∧k_≠gb382) (.slice (some ad378) y369.length co26) y369):=⟨h3_⟩
        have n4_ : Aside0 (w42.heap[gb375]? = some (.cells #[.int .i64 t372,.int .i64 t373] 36 (0,0))):=⟨h4_⟩
        have n5_ : Aside0 (w42.heap[gb382]? = some (.cells #[.int .i64 0,.int .i64 0] 36 (0,0))):=⟨h5_⟩
        have n6_ : Aside0 (w.heap.size ≤ gb382):=⟨h6_⟩
        have n7_ : Aside0 (w.heap.size ≤ gb382):=⟨h7_⟩
        have n8_ : Aside0 (gb375≠gb382):=⟨h8_⟩
        have n9_ : Aside0 (gb382≠gb375):=⟨h9_⟩
        have n10_ : Aside0 (Below w.heap.size w w42):=⟨h10_⟩
        clear HO_6
        clear HO_7
        clear BK375
        clear HB
        clear h0_ h1_ h2_ h3_ h4_ h5_ h6_ h7_ h8_ h9_ h10_
        have HL377_0:=n0_
        have HL378_0:=n1_
        have HO_6:=n2_
        have HO_7:=n3_
        have BK375:=n4_
        have BK382:=n5_
        have GW382:=n6_
        have GE382:=n7_
        have NB375_382:=n8_
        have NB382_375:=n9_
        have HB:=n10_
        clear n0_ n1_ n2_ n3_ n4_ n5_ n6_ n7_ n8_ n9_ n10_
        have hHeld : w42.cell? (ad377.add (x46_1).toNat) = some (.slice A377_0 (rd_L1 y358 x46_1).length c377_0)∧w42.cell? (ad378.add (x46_1).toNat) = some (.slice A378_0 (rd_L1 y369 x46_1).length c378_0):=hS_
        refine norm_ (a':=?_) ?_ ?_
        rotate_left
        ·
         simp only [putAll,Act.put,List.setIfInBounds_toArray,List.set_cons_zero,List.set_cons_succ]
         rfl
        refine one_ (i:=13) (N:=none) #[true,true,true,true,true,true,true,true,true,true,true,true,true,true,false] rfl rfl (one_of HT_.out (by kernel_rfl)) (by decide) (fun K hK=>?_)
        have hs43 : w42.cell? ⟨gb382,0,none⟩ = some (.int .i64 0):=(blk_cell BK382.out 0).trans rfl
        have hfs43:=blk_frozen BK382.out 0
        have hns43_0:=NB375_382.out
        have hms43_0:=NB382_375.out
        have hs44 : w42.cell? ⟨gb382,1,none⟩ = some (.int .i64 0):=(blk_cell BK382.out 1).trans rfl
        have hfs44:=blk_frozen BK382.out 1
        have hns44_0:=NB375_382.out
        have hms44_0:=NB382_375.out
        refine skip_ (w1:=?_) (by rfl) rfl ?_ ?_
        rotate_left
        ·
         go_simp
         rfl
        refine hK.out _ _ ⟨((cell_far (p:=⟨gb382,_,none⟩) (by first|exact Kd.own_blk (Kd.N_away HO_6.out (fun _ hk=>hk.2.2))|(rw [add_block];exact Kd.own_blk (Kd.N_away HO_6.out (fun _ hk=>hk.2.2)))|(show (Addr.add _ _).block≠_;rw [add_block];exact Kd.own_blk (Kd.N_away HO_6.out (fun _ hk=>hk.2.2)))|(dsimp only;exact Kd.own_blk (Kd.N_away HO_6.out (fun _ hk=>hk.2.2)))) _).trans (((cell_far (p:=⟨gb382,_,none⟩) (by first|exact Kd.own_blk (Kd.N_away HO_6.out (fun _ hk=>hk.2.2))|(rw [add_block];exact Kd.own_blk (Kd.N_away HO_6.out (fun _ hk=>hk.2.2)))|(show (Addr.add _ _).block≠_;rw [add_block];exact Kd.own_blk (Kd.N_away HO_6.out (fun _ hk=>hk.2.2)))|(dsimp only;exact Kd.own_blk (Kd.N_away HO_6.out (fun _ hk=>hk.2.2)))) _).trans (hHeld.1)))),((cell_far (p:=⟨gb382,_,none⟩) (by first|exact Kd.own_blk (Kd.N_away HO_7.out (fun _ hk=>hk.2.2))|(rw [add_block];exact Kd.own_blk (Kd.N_away HO_7.out (fun _ hk=>hk.2.2)))|(show (Addr.add _ _).block≠_;rw [add_block];exact Kd.own_blk (Kd.N_away HO_7.out (fun _ hk=>hk.2.2)))|(dsimp only;exact Kd.own_blk (Kd.N_away HO_7.out (fun _ hk=>hk.2.2)))) _).trans (((cell_far (p:=⟨gb382,_,none⟩) (by first|exact Kd.own_blk (Kd.N_away HO_7.out (fun _ hk=>hk.2.2))|(rw [add_block];exact Kd.own_blk (Kd.N_away HO_7.out (fun _ hk=>hk.2.2)))|(show (Addr.add _ _).block≠_;rw [add_block];exact Kd.own_blk (Kd.N_away HO_7.out (fun _ hk=>hk.2.2)))|(dsimp only;exact Kd.own_blk (Kd.N_away HO_7.out (fun _ hk=>hk.2.2)))) _).trans (hHeld.2))))⟩ (fun hHeld=>?_)
        clear hK K
        refine pure_ (i:=14) (N:=some 13) (v:=?_) (a':=?_) #[true,true,true,true,true,true,true,true,true,true,true,true,true,true,true] rfl rfl (any_of HT_.out (by kernel_rfl)) (fun _ _ _ h=>h) (Or.inl ⟨by rfl,?_⟩) ?_ ?_
        rotate_left
        ·
         intro w'
         go_simp
         with_reducible rfl
        rotate_left
        ·
         simp only [Act.put,sa,sb,sc,i64_w,i32_w]
         rfl
        refine done_ (done_of HT_.out (by kernel_rfl)) ?_
        have hnb45:=NB375_382.out
        have hnc45:=NB382_375.out
        have hcz46_0 : w42.cell? ⟨gb375,0,none⟩ = some (.int .i64 t372):=(blk_cell BK375.out 0).trans rfl
        have hcz46_1 : w42.cell? ⟨gb375,1,none⟩ = some (.int .i64 t373):=(blk_cell BK375.out 1).trans rfl
        have hfz46_0:=blk_frozen BK375.out 0
        have hfz46_1:=blk_frozen BK375.out 1
        have hcz47_0 : w42.cell? ⟨gb382,0,none⟩ = some (.int .i64 0):=(blk_cell BK382.out 0).trans rfl
        have hcz47_1 : w42.cell? ⟨gb382,1,none⟩ = some (.int .i64 0):=(blk_cell BK382.out 1).trans rfl
        have hfz47_0:=blk_frozen BK382.out 0
        have hfz47_1:=blk_frozen BK382.out 1
        go_upto_region 12 with (first|((with_reducible refine gate_callee (f:=22) rfl ?_);refine goesL_ (some 63) rfl rfl Try.func22 (by kernel_rfl) rfl #[.agg #[.int .i64 t372,.int .i64 t373],.agg #[.int .i64 t379,.int .i64 t380]] rfl (by (try simp only [List.map_toArray,List.map_cons,List.map_nil]);first|done|rfl|(simp only [List.length_drop,List.length_take];rfl)) ?_;(with_reducible refine (shapesearchref01_Less.calls k1 t372 t373 t379 t380 false _ A36.out).mono ?_);rintro e w48 ⟨rfl,hb⟩;refine ⟨_,rfl,?_⟩;have n0_:=A_ (Kd.N_below (by (with_reducible repeat (first|apply na|apply nd_|apply ne_));exact (Kd.N_mono (Kd.N_far (p:=⟨gb382,1,none⟩) (Kd.N_far (p:=⟨gb382,0,none⟩) (Kd.N_mono HO_6.out (fun k_ hk=>(⟨hk,hk.2.2⟩ : _∧k_≠gb382))) (fun _ hk=>hk.2) (.int .i64 t379)) (fun _ hk=>hk.2) (.int .i64 t380)) (fun _ h_=>h_.1))) hb);have n1_:=A_ (Kd.N_below (by (with_reducible repeat (first|apply na|apply nd_|apply ne_));exact (Kd.N_mono (Kd.N_far (p:=⟨gb382,1,none⟩) (Kd.N_far (p:=⟨gb382,0,none⟩) (Kd.N_mono HO_7.out (fun k_ hk=>(⟨hk,hk.2.2⟩ : _∧k_≠gb382))) (fun _ hk=>hk.2) (.int .i64 t379)) (fun _ hk=>hk.2) (.int .i64 t380)) (fun _ h_=>h_.1))) hb);have n2_:=A_ (Kd.V_below (by (with_reducible repeat (first|apply Kd.V_alloc|apply Kd.V_drewN|apply Kd.V_drew));exact (Kd.V_mono (Kd.V_far (p:=⟨gb382,1,none⟩) (Kd.V_far (p:=⟨gb382,0,none⟩) (Kd.V_mono HL377_0.out (fun k_ hk=>(⟨hk,hk.2.2.2⟩ : _∧k_≠gb382))) (fun _ hk=>hk.2) (.int .i64 t379)) (fun _ hk=>hk.2) (.int .i64 t380)) (fun _ h_=>h_.1))) hb);have n3_:=A_ (Kd.V_below (by (with_reducible repeat (first|apply Kd.V_alloc|apply Kd.V_drewN|apply Kd.V_drew));exact (Kd.V_mono (Kd.V_far (p:=⟨gb382,1,none⟩) (Kd.V_far (p:=⟨gb382,0,none⟩) (Kd.V_mono HL378_0.out (fun k_ hk=>(⟨hk,hk.2.2.2⟩ : _∧k_≠gb382))) (fun _ hk=>hk.2) (.int .i64 t379)) (fun _ hk=>hk.2) (.int .i64 t380)) (fun _ h_=>h_.1))) hb);have n4_:=A_ (blk_below (g:=gb375) (o:=.cells #[.int .i64 t372,.int .i64 t373] 36 (0,0)) (by (with_reducible repeat (first|refine blk_drewN ?_ _|refine blk_drew ?_|refine blk_alloc ?_ _));refine blk_far ?_ NB375_382.out _;(with_reducible repeat (first|refine blk_drewN ?_ _|refine blk_drew ?_|refine blk_alloc ?_ _));refine blk_far ?_ NB375_382.out _;(with_reducible repeat (first|refine blk_drewN ?_ _|refine blk_drew ?_|refine blk_alloc ?_ _));exact BK375.out) hb);have n5_:=A_ (blk_below (g:=gb382) (o:=.cells #[.int .i64 t379,.int .i64 t380] 36 (0,0)) (by (with_reducible repeat (first|refine blk_drewN ?_ _|refine blk_drew ?_|refine blk_alloc ?_ _));refine blk_put (cs:=#[.int .i64 t379,.int .i64 0]) ?_ 1 _ rfl;(with_reducible repeat (first|refine blk_drewN ?_ _|refine blk_drew ?_|refine blk_alloc ?_ _));refine blk_put (cs:=#[.int .i64 0,.int .i64 0]) ?_ 0 _ rfl;(with_reducible repeat (first|refine blk_drewN ?_ _|refine blk_drew ?_|refine blk_alloc ?_ _));exact BK382.out) hb);have n6_:=A_ (below_step (by repeat (first|(with_reducible first|exact HB.out|apply ba|apply bb|apply bc|refine below_set ?_ GE375.out|refine below_set ?_ GE382.out)|exact HB.out)) hb);clear HO_6;clear HO_7;clear HL377_0;clear HL378_0;clear BK375;clear BK382;clear HB;have HO_6:=n0_;have HO_7:=n1_;have HL377_0:=n2_;have HL378_0:=n3_;have BK375:=n4_;have BK382:=n5_;have HB:=n6_;clear n0_ n1_ n2_ n3_ n4_ n5_ n6_;(try clear hb);(try clear hb2);(try clear hk);(try clear hi)))
        (try simp only [Act.put,List.setIfInBounds_toArray,List.set_cons_zero,List.set_cons_succ])
        have H:=HC38.out
        clear HC38
        by_cases c49 : x10_1 = true
        ·
         subst c49
         have H1 : (shapesearchlaw16_ChannelsGreatest.l0 k1 y358 y369 t374 true (y358.length : Int) (wrap64 (x46_1 + 1)) t372 t373) = some r:=by rw [if_pos rfl] at H;exact H
         clear H
         have H:=H1
         clear H1
         have H':=A_ H
         clear H
         go_wp2
         go_roundg k1
         case measure=>have:=HK1.out;omega
         case rel=>exact ⟨(true),(wrap64 (x46_1 + 1)),(by first|rfl|(simp;done)|(simp [*];done)),(by first|rfl|(simp;done)|(simp [*];done)),H',⟨by have:=HK1.out;omega⟩,⟨by (with_reducible repeat (first|apply na|apply nd_|apply ne_));exact Kd.N_mono HO_6.out (fun _ hk=>⟨hk.1,hk.2.1⟩)⟩,⟨by (with_reducible repeat (first|apply na|apply nd_|apply ne_));exact Kd.N_mono HO_7.out (fun _ hk=>⟨hk.1,hk.2.1⟩)⟩,⟨by (with_reducible repeat (first|refine blk_drewN ?_ _|refine blk_drew ?_|refine blk_alloc ?_ _));exact BK375.out⟩,⟨by repeat (first|(with_reducible first|exact HB.out|apply ba|apply bb|apply bc|refine below_set ?_ GE375.out|refine below_set ?_ GE382.out)|exact HB.out)⟩⟩
        ·
         replace c49:=Bool.eq_false_iff.mpr c49
         subst c49
         have H1 : (shapesearchlaw16_ChannelsGreatest.l0 k1 y358 y369 t374 (t372 == t379 && (t373 == t380)) (y358.length : Int) (wrap64 (x46_1 + 1)) t372 t373) = some r:=by rw [if_neg (show ¬ (false = true) by decide)] at H;exact H
         clear H
         have H:=H1
         clear H1
         have H':=A_ H
         clear H
         have hnb50:=NB375_382.out
         have hnc50:=NB382_375.out
         have hcz51_0 : w48.cell? ⟨gb375,0,none⟩ = some (.int .i64 t372):=(blk_cell BK375.out 0).trans rfl
         have hcz51_1 : w48.cell? ⟨gb375,1,none⟩ = some (.int .i64 t373):=(blk_cell BK375.out 1).trans rfl
         have hfz51_0:=blk_frozen BK375.out 0
         have hfz51_1:=blk_frozen BK375.out 1
         have hcz52_0 : w48.cell? ⟨gb382,0,none⟩ = some (.int .i64 t379):=(blk_cell BK382.out 0).trans rfl
         have hcz52_1 : w48.cell? ⟨gb382,1,none⟩ = some (.int .i64 t380):=(blk_cell BK382.out 1).trans rfl
         have hfz52_0:=blk_frozen BK382.out 0
         have hfz52_1:=blk_frozen BK382.out 1
         go_wp2
         go_roundg k1
         case measure=>have:=HK1.out;omega
         case rel=>exact ⟨((t372 == t379 && (t373 == t380))),(wrap64 (x46_1 + 1)),(by first|rfl|(simp;done)|(simp [*];done)),(by first|rfl|(simp;done)|(simp [*];done)),H',⟨by have:=HK1.out;omega⟩,⟨by (with_reducible repeat (first|apply na|apply nd_|apply ne_));exact Kd.N_mono HO_6.out (fun _ hk=>⟨hk.1,hk.2.1⟩)⟩,⟨by (with_reducible repeat (first|apply na|apply nd_|apply ne_));exact Kd.N_mono HO_7.out (fun _ hk=>⟨hk.1,hk.2.1⟩)⟩,⟨by (with_reducible repeat (first|refine blk_drewN ?_ _|refine blk_drew ?_|refine blk_alloc ?_ _));exact BK375.out⟩,⟨by repeat (first|(with_reducible first|exact HB.out|apply ba|apply bb|apply bc|refine below_set ?_ GE375.out|refine below_set ?_ GE382.out)|exact HB.out)⟩⟩
      ·
       rw [if_neg c34] at H
       exact absurd H (by simp)
     ·
      rw [if_neg c33] at H
      exact absurd H (by simp)
    ·
     rw [if_neg c32] at H
     exact absurd H (by simp)
   ·
    rw [if_neg c31] at H
    have c31b0 : decide (x46_1 < (y358.length : Int)) = false:=decide_eq_false c31
    clear c31
    by_cases c53 : t374 = 0
    ·
     rw [if_pos c53] at H
     have c53b0 : (t374 == 0) = true:=beq_iff_eq.mpr c53
     have c53b1 : (t374 != 0) = false:=bne_eq_false_iff_eq.mpr c53
     clear c53
     by_cases c54 : x10_1 = true
     ·
      subst c54
      have H1 : ((shapesearchlaw16_awake.f k1).bind fun t376=>(some t376)) = some r:=by rw [if_pos rfl] at H;exact H
      clear H
      have H:=H1
      clear H1
      replace H:=Option.bind_eq_some_iff.mp H
      obtain ⟨t376,A550,H⟩:=H
      replace H : (some t376) = some r:=H
      have A55:=A_ A550
      clear A550
      obtain rfl:=Option.some.inj H
      go_wp2_with (first|(go_at_call 15;(with_reducible refine (shapesearchlaw16_awake.calls k1  t376 _ A55.out).mono ?_);rintro e w56 ⟨rfl,hb⟩;have n0_:=A_ (Kd.N_below (by (with_reducible repeat (first|apply na|apply nd_|apply ne_));exact HO_6.out) hb);have n1_:=A_ (Kd.N_below (by (with_reducible repeat (first|apply na|apply nd_|apply ne_));exact HO_7.out) hb);have n2_:=A_ (blk_below (g:=gb375) (o:=.cells #[.int .i64 t372,.int .i64 t373] 36 (0,0)) (by (with_reducible repeat (first|refine blk_drewN ?_ _|refine blk_drew ?_|refine blk_alloc ?_ _));exact BK375.out) hb);have n3_:=A_ (below_step (by repeat (first|(with_reducible first|exact HB.out|apply ba|apply bb|apply bc|refine below_set ?_ GE375.out)|exact HB.out)) hb);clear HO_6;clear HO_7;clear BK375;clear HB;have HO_6:=n0_;have HO_7:=n1_;have BK375:=n2_;have HB:=n3_;clear n0_ n1_ n2_ n3_;(try clear hb);(try clear hb2);(try clear hk);(try clear hi)))
      go_ret
      exact ⟨by first|rfl|(simp [errW_none,errW_some] <;> rfl)|(simp [*,errW_none,errW_some] <;> rfl),by repeat (first|(with_reducible first|exact HB.out|apply ba|apply bb|apply bc|refine below_set ?_ GE375.out)|exact HB.out)⟩
     ·
      replace c54:=Bool.eq_false_iff.mpr c54
      subst c54
      have H1 : (some false) = some r:=by rw [if_neg (show ¬ (false = true) by decide)] at H;exact H
      clear H
      have H:=H1
      clear H1
      exact absurd ((Option.some.inj H).trans HTR_.out) (by decide)
    ·
     rw [if_neg c53] at H
     have c53b0 : (t374 == 0) = false:=beq_eq_false_iff_ne.mpr c53
     have c53b1 : (t374 != 0) = true:=bne_iff_ne.mpr c53
     exact absurd ((Option.some.inj H).trans HTR_.out) (by decide)

/-- THE ONE PURE STATEMENT of shapesearchlaw16_ChannelsGreatest: yours. -/
def shapesearchlaw16_ChannelsGreatest.Pure : Prop:=∀ (l0 : List Int),l0.length ≤ maxLen → l0.length * 8 ≤ 140737488351232 → (∀ x ∈ l0,(Lit.int .i64 x).wf = true) → ∃ k,shapesearchlaw16_ChannelsGreatest.f k l0 = some true
theorem shapesearchlaw16_ChannelsGreatest.walk (P : shapesearchlaw16_ChannelsGreatest.Pure) (a0 : Option Addr) (len0 cap0 : Nat) (z0 : List Int) (w : World) (w0 : (a0 = none∧len0 = 0∧cap0 = 0∧z0 = []) ∨ ∃ x,a0 = some x∧len0 ≤ cap0∧cap0 ≤ maxLen∧z0.length = cap0∧(∀ i,i < z0.length → w.cell? (x.add i) = some (.int .i64 (z0.getD i 0)))∧∀ n ∈ z0,(Lit.int .i64 n).wf = true) (y0 : len0 * 8 ≤ 140737488351232) :
  Calls Try.prog 6 #[.slice a0 len0 cap0] w fun e w'=>e = .returned (.bool true)∧Below w.heap.size w w':=by
 obtain ⟨l0,rfl,hr0,hm0,hw0,hc0⟩:=ReadsInt.ofRowC w0
 obtain ⟨k,h⟩:=P l0 hm0 y0 hw0
 refine (shapesearchlaw16_ChannelsGreatest.calls k _ _ l0 true w (Kd.C_of_reads (d:=(0 : Int)) (h1:=fun _=>rfl) hr0) hc0 h rfl).mono ?_
 rintro e w' ⟨rfl,hd⟩
 exact ⟨rfl,hd⟩

end Go.Proofs.Ytodipcfbgnljeaa.PChannelsGreatest
