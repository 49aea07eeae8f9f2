/- This file proves, function by function, what the Go functions that one law uses compute; most of it was printed by a program (wip/tools of this session, over the kit's print). -/
import Derived.Test.YtmckmjpfcgmalaaPNormalRangex0
import Derived.Test.YtmckmjpfcgmalaaPNormalRangex6
namespace Go.Proofs.Ytmckmjpfcgmalaa.PNormalRange
open Go.RowKit Go.Proofs.YtmckmjpfcgmalaaW.PrintWords Go.Proofs.YtmckmjpfcgmalaaW.PrintLast Go.Proofs.YtmckmjpfcgmalaaW.PrintMore
attribute [local go_sem] max2_int min2_int max_two min_two max_three min_three max_four min_four   -- for this text's walks alone
set_option linter.unusedVariables false
set_option linter.unusedSimpArgs false

/-! ### shapesearchref01_order: function 37 -/
mutual
def shapesearchref01_order.j0 : Nat → Int → Int → Int → Int → Bool → Option (Int)
 | 0,_,_,_,_,_=>none
 | k + 1,x0,x1,x2,x3,x29=>if x29 = true then (some 0) else (if x0 = 0 then (some (-1)) else (if x2 = 0 then (some 1) else ((shapesearchref01_order.f k x3 x2 x1 x0).bind fun t302=>(some t302))))
def shapesearchref01_order.f : Nat → Int → Int → Int → Int → Option (Int)
 | 0,_,_,_,_=>none
 | k + 1,a0,a1,a2,a3=>if a1 = 0 then (none) else (if a3 = 0 then (none) else (if (wrap64 (Int.tdiv a0 a1)) = (wrap64 (Int.tdiv a2 a3)) then (if (Int.tmod a0 a1) = 0 then (shapesearchref01_order.j0 k (Int.tmod a0 a1) a1 (Int.tmod a2 a3) a3 ((Int.tmod a2 a3) == 0)) else (shapesearchref01_order.j0 k (Int.tmod a0 a1) a1 (Int.tmod a2 a3) a3 false)) else (if (wrap64 (Int.tdiv a0 a1)) < (wrap64 (Int.tdiv a2 a3)) then (some (-1)) else (some 1))))
end
theorem shapesearchref01_order.mono_l : ∀ k,(∀ y0 y1 y2 y3,LeO (shapesearchref01_order.f k y0 y1 y2 y3) (shapesearchref01_order.f (k + 1) y0 y1 y2 y3))∧(∀ y0 y1 y2 y3 y4,LeO (shapesearchref01_order.j0 k y0 y1 y2 y3 y4) (shapesearchref01_order.j0 (k + 1) y0 y1 y2 y3 y4))
 | 0=>⟨fun _ _ _ _ r h=>by simp [shapesearchref01_order.f] at h,fun _ _ _ _ _ r h=>by simp [shapesearchref01_order.j0] at h⟩
 | k + 1=>by
  obtain ⟨ih0,ih1⟩:=shapesearchref01_order.mono_l k
  refine ⟨?_,?_⟩
  ·
   intro y0 y1 y2 y3
   unfold shapesearchref01_order.f
   repeat' first
   | (with_reducible exact ih0 _ _ _ _)
   | (with_reducible exact ih1 _ _ _ _ _)
   | (with_reducible exact LeO.refl _)
   | (with_reducible exact LeO.none _)
   | (with_reducible refine LeO.ite ?_ ?_)
   | (with_reducible refine LeO.bind ?_ (fun _=>?_))
   | exact ih0 _ _ _ _
   | exact ih1 _ _ _ _ _
   | exact LeO.none _
   | refine LeO.ite ?_ ?_
   | refine LeO.bind ?_ (fun _=>?_)
  ·
   intro y0 y1 y2 y3 y4
   unfold shapesearchref01_order.j0
   repeat' first
   | (with_reducible exact ih0 _ _ _ _)
   | (with_reducible exact ih1 _ _ _ _ _)
   | (with_reducible exact LeO.refl _)
   | (with_reducible exact LeO.none _)
   | (with_reducible refine LeO.ite ?_ ?_)
   | (with_reducible refine LeO.bind ?_ (fun _=>?_))
   | exact ih0 _ _ _ _
   | exact ih1 _ _ _ _ _
   | exact LeO.none _
   | refine LeO.ite ?_ ?_
   | refine LeO.bind ?_ (fun _=>?_)
theorem shapesearchref01_order.mono : ∀ a0 a1 a2 a3 k,LeO (shapesearchref01_order.f k a0 a1 a2 a3) (shapesearchref01_order.f (k + 1) a0 a1 a2 a3):=by
 intro a0 a1 a2 a3 k
 obtain ⟨ih0,ih1⟩:=shapesearchref01_order.mono_l k
 exact ih0 a0 a1 a2 a3
set_option maxHeartbeats 8000000 in
set_option maxRecDepth 100000 in
theorem shapesearchref01_order.calls (k : Nat) : ∀ (a0 : Int) (a1 : Int) (a2 : Int) (a3 : Int) (r : Int) (w : World) (h : shapesearchref01_order.f k a0 a1 a2 a3 = some r),
  Calls Try.prog 37 #[.int .i64 a0,.int .i64 a1,.int .i64 a2,.int .i64 a3] w fun e w'=>e = .returned (.int .i64 r)∧Drawn0 w w':=by
 induction k using Nat.strongRecOn with
 | _ k ih =>
 intro a0 a1 a2 a3 r w h
 cases k with
 | zero=>exact absurd h (by simp [shapesearchref01_order.f])
 | succ k =>
 simp only [shapesearchref01_order.f] at h
 have H : (if a1 = 0 then (none) else (if a3 = 0 then (none) else (if (wrap64 (Int.tdiv a0 a1)) = (wrap64 (Int.tdiv a2 a3)) then (if (Int.tmod a0 a1) = 0 then (shapesearchref01_order.j0 k (Int.tmod a0 a1) a1 (Int.tmod a2 a3) a3 ((Int.tmod a2 a3) == 0)) else (shapesearchref01_order.j0 k (Int.tmod a0 a1) a1 (Int.tmod a2 a3) a3 false)) else (if (wrap64 (Int.tdiv a0 a1)) < (wrap64 (Int.tdiv a2 a3)) then (some (-1)) else (some 1))))) = some r:=h
 clear h
 by_cases c5 : a1 = 0
 ·
  rw [if_pos c5] at H
  exact absurd H (by simp)
 ·
  rw [if_neg c5] at H
  have c5b0 : (a1 == 0) = false:=beq_eq_false_iff_ne.mpr c5
  have c5b1 : (a1 != 0) = true:=bne_iff_ne.mpr c5
  by_cases c6 : a3 = 0
  ·
   rw [if_pos c6] at H
   exact absurd H (by simp)
  ·
   rw [if_neg c6] at H
   have c6b0 : (a3 == 0) = false:=beq_eq_false_iff_ne.mpr c6
   have c6b1 : (a3 != 0) = true:=bne_iff_ne.mpr c6
   by_cases c7 : (wrap64 (Int.tdiv a0 a1)) = (wrap64 (Int.tdiv a2 a3))
   ·
    rw [if_pos c7] at H
    have c7b0 : ((wrap64 (Int.tdiv a0 a1)) == (wrap64 (Int.tdiv a2 a3))) = true:=beq_iff_eq.mpr c7
    have c7b1 : ((wrap64 (Int.tdiv a0 a1)) != (wrap64 (Int.tdiv a2 a3))) = false:=bne_eq_false_iff_eq.mpr c7
    clear c7
    have HC8:=A_ H
    clear H
    go_enter Try.func37,Try.ntmps37
    go_upto_region 7 with (fail)
    repeat (go_quiet (fail);go_upto_region 7 with (fail))
    go_cut [29] (fun v29 wc=>∃ (kq : Nat) (x29_7 : Bool),v29 = .bool x29_7∧Aside0 (shapesearchref01_order.j0 kq (Int.tmod a0 a1) a1 (Int.tmod a2 a3) a3 x29_7 = some r)∧Aside0 (kq ≤ k)∧Drawn0 w wc)
    case first =>
     have H:=HC8.out
     clear HC8
     by_cases c9 : (Int.tmod a0 a1) = 0
     ·
      rw [if_pos c9] at H
      have c9b0 : ((Int.tmod a0 a1) == 0) = true:=beq_iff_eq.mpr c9
      have c9b1 : ((Int.tmod a0 a1) != 0) = false:=bne_eq_false_iff_eq.mpr c9
      clear c9
      (first|rw [c9b0]|(simp only [i64_w,i32_w];rw [c9b0])|skip)
      have H':=A_ H
      clear H
      go_wp2
      repeat (go_quiet (fail);try go_wp2)
      go_meet
      case rel=>exact ⟨_,(((Int.tmod a2 a3) == 0)),(by first|rfl|(simp;done)|(simp [*];done)),H',⟨by first|omega|exact Nat.le_refl _⟩,by repeat (first|exact Drawn0.refl _|apply Drawn0.step)⟩
     ·
      rw [if_neg c9] at H
      have c9b0 : ((Int.tmod a0 a1) == 0) = false:=beq_eq_false_iff_ne.mpr c9
      have c9b1 : ((Int.tmod a0 a1) != 0) = true:=bne_iff_ne.mpr c9
      (first|rw [c9b0]|(simp only [i64_w,i32_w];rw [c9b0])|skip)
      have H':=A_ H
      clear H
      go_wp2
      repeat (go_quiet (fail);try go_wp2)
      go_meet
      case rel=>exact ⟨_,(false),(by first|rfl|(simp;done)|(simp [*];done)),H',⟨by first|omega|exact Nat.le_refl _⟩,by repeat (first|exact Drawn0.refl _|apply Drawn0.step)⟩
    case rest =>
     clear HC8
     try clear p2
     try clear c3
     try clear c5
     try clear c5b0
     try clear c5b1
     try clear c6
     try clear c6b0
     try clear c6b1
     try clear p6
     try clear c7
     try clear c7b0
     try clear c7b1
     try clear c9
     try clear c9b0
     try clear c9b1
     obtain ⟨kq,x29_7,rfl,HA,HJ7,⟨mc7,rfl⟩⟩:=hcut
     cases kq with
     | zero=>exact absurd HA.out (by simp [shapesearchref01_order.j0])
     | succ kj7 =>
      have H:=HA.out
      clear HA
      simp only [shapesearchref01_order.j0] at H
      by_cases c10 : x29_7 = true
      ·
       subst c10
       have H1 : (some 0) = some r:=by rw [if_pos rfl] at H;exact H
       clear H
       have H:=H1
       clear H1
       obtain rfl:=Option.some.inj H
       go_wp2
       repeat (go_quiet (fail);try go_wp2)
       go_ret
       exact ⟨by first|rfl|(simp;done)|(simp [*];done),by repeat (first|exact Drawn0.refl _|apply Drawn0.step)⟩
      ·
       replace c10:=Bool.eq_false_iff.mpr c10
       subst c10
       have H1 : (if (Int.tmod a0 a1) = 0 then (some (-1)) else (if (Int.tmod a2 a3) = 0 then (some 1) else ((shapesearchref01_order.f kj7 a3 (Int.tmod a2 a3) a1 (Int.tmod a0 a1)).bind fun t302=>(some t302)))) = some r:=by rw [if_neg (show ¬ (false = true) by decide)] at H;exact H
       clear H
       have H:=H1
       clear H1
       by_cases c11 : (Int.tmod a0 a1) = 0
       ·
        rw [if_pos c11] at H
        have c11b0 : ((Int.tmod a0 a1) == 0) = true:=beq_iff_eq.mpr c11
        have c11b1 : ((Int.tmod a0 a1) != 0) = false:=bne_eq_false_iff_eq.mpr c11
        clear c11
        obtain rfl:=Option.some.inj H
        go_wp2
        repeat (go_quiet (fail);try go_wp2)
        go_ret
        exact ⟨by first|rfl|(simp;done)|(simp [*];done),by repeat (first|exact Drawn0.refl _|apply Drawn0.step)⟩
       ·
        rw [if_neg c11] at H
        have c11b0 : ((Int.tmod a0 a1) == 0) = false:=beq_eq_false_iff_ne.mpr c11
        have c11b1 : ((Int.tmod a0 a1) != 0) = true:=bne_iff_ne.mpr c11
        by_cases c12 : (Int.tmod a2 a3) = 0
        ·
         rw [if_pos c12] at H
         have c12b0 : ((Int.tmod a2 a3) == 0) = true:=beq_iff_eq.mpr c12
         have c12b1 : ((Int.tmod a2 a3) != 0) = false:=bne_eq_false_iff_eq.mpr c12
         clear c12
         obtain rfl:=Option.some.inj H
         go_wp2
         repeat (go_quiet (fail);try go_wp2)
         go_ret
         exact ⟨by first|rfl|(simp;done)|(simp [*];done),by repeat (first|exact Drawn0.refl _|apply Drawn0.step)⟩
        ·
         rw [if_neg c12] at H
         have c12b0 : ((Int.tmod a2 a3) == 0) = false:=beq_eq_false_iff_ne.mpr c12
         have c12b1 : ((Int.tmod a2 a3) != 0) = true:=bne_iff_ne.mpr c12
         replace H:=Option.bind_eq_some_iff.mp H
         obtain ⟨t302,A130,H⟩:=H
         replace H : (some t302) = some r:=H
         have A13:=A_ A130
         clear A130
         obtain rfl:=Option.some.inj H
         go_wp2_with (first|(go_at_call 37;(with_reducible refine (ih kj7 (by have:=HJ7.out;omega) a3 (Int.tmod a2 a3) a1 (Int.tmod a0 a1) t302 _ A13.out).mono ?_);rintro e w' ⟨rfl,⟨nd,rfl⟩⟩;(try first|exact ⟨rfl,_,World.drewN_drewN _ _ _⟩|exact ⟨rfl,_,Eq.trans (World.drewN_drewN _ _ _) (congrArg (World.drewN _) (Nat.add_assoc _ _ _))⟩)))
         repeat (go_quiet (first|(go_at_call 37;(with_reducible refine (ih kj7 (by have:=HJ7.out;omega) a3 (Int.tmod a2 a3) a1 (Int.tmod a0 a1) t302 _ A13.out).mono ?_);rintro e w' ⟨rfl,⟨nd,rfl⟩⟩;(try first|exact ⟨rfl,_,World.drewN_drewN _ _ _⟩|exact ⟨rfl,_,Eq.trans (World.drewN_drewN _ _ _) (congrArg (World.drewN _) (Nat.add_assoc _ _ _))⟩)));try go_wp2_with (first|(go_at_call 37;(with_reducible refine (ih kj7 (by have:=HJ7.out;omega) a3 (Int.tmod a2 a3) a1 (Int.tmod a0 a1) t302 _ A13.out).mono ?_);rintro e w' ⟨rfl,⟨nd,rfl⟩⟩;(try first|exact ⟨rfl,_,World.drewN_drewN _ _ _⟩|exact ⟨rfl,_,Eq.trans (World.drewN_drewN _ _ _) (congrArg (World.drewN _) (Nat.add_assoc _ _ _))⟩))))
         go_ret
         exact ⟨by first|rfl|(simp;done)|(simp [*];done),by repeat (first|exact Drawn0.refl _|apply Drawn0.step)⟩
   ·
    rw [if_neg c7] at H
    have c7b0 : ((wrap64 (Int.tdiv a0 a1)) == (wrap64 (Int.tdiv a2 a3))) = false:=beq_eq_false_iff_ne.mpr c7
    have c7b1 : ((wrap64 (Int.tdiv a0 a1)) != (wrap64 (Int.tdiv a2 a3))) = true:=bne_iff_ne.mpr c7
    by_cases c14 : (wrap64 (Int.tdiv a0 a1)) < (wrap64 (Int.tdiv a2 a3))
    ·
     rw [if_pos c14] at H
     have c14b0 : decide ((wrap64 (Int.tdiv a0 a1)) < (wrap64 (Int.tdiv a2 a3))) = true:=decide_eq_true c14
     clear c14
     obtain rfl:=Option.some.inj H
     go_enter Try.func37,Try.ntmps37
     go_wp2
     repeat (go_quiet (fail);try go_wp2)
     go_ret
     exact ⟨by first|rfl|(simp;done)|(simp [*];done),by repeat (first|exact Drawn0.refl _|apply Drawn0.step)⟩
    ·
     rw [if_neg c14] at H
     have c14b0 : decide ((wrap64 (Int.tdiv a0 a1)) < (wrap64 (Int.tdiv a2 a3))) = false:=decide_eq_false c14
     clear c14
     obtain rfl:=Option.some.inj H
     go_enter Try.func37,Try.ntmps37
     go_wp2
     repeat (go_quiet (fail);try go_wp2)
     go_ret
     exact ⟨by first|rfl|(simp;done)|(simp [*];done),by repeat (first|exact Drawn0.refl _|apply Drawn0.step)⟩

/-! ### shapesearchref01_Cmp: function 17 -/
def shapesearchref01_Cmp.f (k : Nat) (a0_0 : Int) (a0_1 : Int) (a1_0 : Int) (a1_1 : Int) : Option (Int):=(shapesearchref01_Valid.f k a0_0 a0_1).bind fun t305=>(if t305 = true then ((shapesearchref01_Valid.f k a1_0 a1_1).bind fun t306=>(if t306 = true then ((shapesearchref01_order.f k a0_0 a0_1 a1_0 a1_1).bind fun t307=>(some t307)) else (some 0))) else (some 0))
theorem shapesearchref01_Cmp.mono : ∀ a0 a1 a2 a3 k,LeO (shapesearchref01_Cmp.f k a0 a1 a2 a3) (shapesearchref01_Cmp.f (k + 1) a0 a1 a2 a3):=by
 intro a0 a1 a2 a3 k
 unfold shapesearchref01_Cmp.f
 repeat' first
   | (with_reducible exact shapesearchref01_Valid.mono _ _ _)
   | (with_reducible exact shapesearchref01_order.mono _ _ _ _ _)
   | (with_reducible exact LeO.refl _)
   | (with_reducible exact LeO.none _)
   | (with_reducible refine LeO.ite ?_ ?_)
   | (with_reducible refine LeO.bind ?_ (fun _=>?_))
   | exact shapesearchref01_Valid.mono _ _ _
   | exact shapesearchref01_order.mono _ _ _ _ _
   | exact LeO.none _
   | refine LeO.ite ?_ ?_
   | refine LeO.bind ?_ (fun _=>?_)
set_option maxHeartbeats 8000000 in
set_option maxRecDepth 100000 in
theorem shapesearchref01_Cmp.calls (k : Nat) (a0_0 : Int) (a0_1 : Int) (a1_0 : Int) (a1_1 : Int) (r : Int) (w : World) (h : shapesearchref01_Cmp.f k a0_0 a0_1 a1_0 a1_1 = some r) :
  Calls Try.prog 17 #[.agg #[.int .i64 a0_0,.int .i64 a0_1],.agg #[.int .i64 a1_0,.int .i64 a1_1]] w fun e w'=>e = .returned (.int .i64 r)∧Below w.heap.size w w':=by
 have hu29:=Try.underlying29
 have HB:=A_ (Below.refl w.heap.size w)
 have H : ((shapesearchref01_Valid.f k a0_0 a0_1).bind fun t305=>(if t305 = true then ((shapesearchref01_Valid.f k a1_0 a1_1).bind fun t306=>(if t306 = true then ((shapesearchref01_order.f k a0_0 a0_1 a1_0 a1_1).bind fun t307=>(some t307)) else (some 0))) else (some 0))) = some r:=h
 clear h
 replace H:=Option.bind_eq_some_iff.mp H
 obtain ⟨t305,A30,H⟩:=H
 replace H : (if t305 = true then ((shapesearchref01_Valid.f k a1_0 a1_1).bind fun t306=>(if t306 = true then ((shapesearchref01_order.f k a0_0 a0_1 a1_0 a1_1).bind fun t307=>(some t307)) else (some 0))) else (some 0)) = some r:=H
 have A3:=A_ A30
 clear A30
 by_cases c4 : t305 = true
 ·
  subst c4
  have H1 : ((shapesearchref01_Valid.f k a1_0 a1_1).bind fun t306=>(if t306 = true then ((shapesearchref01_order.f k a0_0 a0_1 a1_0 a1_1).bind fun t307=>(some t307)) else (some 0))) = some r:=by rw [if_pos rfl] at H;exact H
  clear H
  have H:=H1
  clear H1
  replace H:=Option.bind_eq_some_iff.mp H
  obtain ⟨t306,A50,H⟩:=H
  replace H : (if t306 = true then ((shapesearchref01_order.f k a0_0 a0_1 a1_0 a1_1).bind fun t307=>(some t307)) else (some 0)) = some r:=H
  have A5:=A_ A50
  clear A50
  by_cases c6 : t306 = true
  ·
   subst c6
   have H1 : ((shapesearchref01_order.f k a0_0 a0_1 a1_0 a1_1).bind fun t307=>(some t307)) = some r:=by rw [if_pos rfl] at H;exact H
   clear H
   have H:=H1
   clear H1
   replace H:=Option.bind_eq_some_iff.mp H
   obtain ⟨t307,A70,H⟩:=H
   replace H : (some t307) = some r:=H
   have A7:=A_ A70
   clear A70
   obtain rfl:=Option.some.inj H
   go_enter Try.func17,Try.ntmps17
   go_wp2_with (first|((with_reducible refine gate_dst (N:=2) rfl ?_);refine box_event ?hg (N:=2) ?hd (cs:=#[.int .i64 a0_0,.int .i64 a0_1]) (t:=29) ?hr ?_;(case hd=>rfl);(case hg=>rfl);(case hr=>first|(go_simp;done)|(go_simp;rfl));intro gb303 hg w8 hbox hb;have n0_:=A_ (below_step (by repeat (first|(with_reducible first|exact HB.out|apply ba|apply bb|apply bc)|exact HB.out)) hb);have n1_:=A_ (hbox);have n2_:=A_ ((by rw [hg];exact (below_size (by repeat (first|(with_reducible first|exact HB.out|apply ba|apply bb|apply bc)|exact HB.out))) : w.heap.size ≤ gb303));have n3_:=A_ ((by rw [hg];exact (below_size (by repeat (first|(with_reducible first|exact HB.out|apply ba|apply bb|apply bc)|exact HB.out))) : w.heap.size ≤ gb303));clear HB;have HB:=n0_;have BK303:=n1_;have GW303:=n2_;have GE303:=n3_;clear n0_ n1_ n2_ n3_;clear hb hbox hg)|((with_reducible refine gate_dst (N:=3) rfl ?_);refine box_event ?hg (N:=3) ?hd (cs:=#[.int .i64 a1_0,.int .i64 a1_1]) (t:=29) ?hr ?_;(case hd=>rfl);(case hg=>rfl);(case hr=>first|(go_simp;done)|(go_simp;rfl));intro gb304 hg w9 hbox hb;have n0_:=A_ (blk_below (g:=gb303) (o:=.cells #[.int .i64 a0_0,.int .i64 a0_1] 29 (0,0)) (by (with_reducible repeat (first|refine blk_drewN ?_ _|refine blk_drew ?_|refine blk_alloc ?_ _));exact BK303.out) hb);have n1_:=A_ (below_step (by repeat (first|(with_reducible first|exact HB.out|apply ba|apply bb|apply bc|refine below_set ?_ GE303.out)|exact HB.out)) hb);have n2_:=A_ (hbox);have n3_:=A_ ((by rw [hg];exact (below_size (by repeat (first|(with_reducible first|exact HB.out|apply ba|apply bb|apply bc|refine below_set ?_ GE303.out)|exact HB.out))) : w.heap.size ≤ gb304));have n4_:=A_ ((by rw [hg];exact (below_size (by repeat (first|(with_reducible first|exact HB.out|apply ba|apply bb|apply bc|refine below_set ?_ GE303.out)|exact HB.out))) : w.heap.size ≤ gb304));have n5_:=A_ ((by rw [hg];exact Nat.ne_of_lt (blk_lt (g:=gb303) (o:=.cells #[.int .i64 a0_0,.int .i64 a0_1] 29 (0,0)) (by (with_reducible repeat (first|refine blk_drewN ?_ _|refine blk_drew ?_|refine blk_alloc ?_ _));exact BK303.out)) : gb303≠gb304));have n6_:=A_ ((by rw [hg];exact Nat.ne_of_gt (blk_lt (g:=gb303) (o:=.cells #[.int .i64 a0_0,.int .i64 a0_1] 29 (0,0)) (by (with_reducible repeat (first|refine blk_drewN ?_ _|refine blk_drew ?_|refine blk_alloc ?_ _));exact BK303.out)) : gb304≠gb303));clear BK303;clear HB;have BK303:=n0_;have HB:=n1_;have BK304:=n2_;have GW304:=n3_;have GE304:=n4_;have NB303_304:=n5_;have NB304_303:=n6_;clear n0_ n1_ n2_ n3_ n4_ n5_ n6_;clear hb hbox hg;have hnb10:=NB303_304.out;have hnc10:=NB304_303.out;have hcz11_0 : w9.cell? ⟨gb303,0,none⟩ = some (.int .i64 a0_0):=(blk_cell BK303.out 0).trans rfl;have hcz11_1 : w9.cell? ⟨gb303,1,none⟩ = some (.int .i64 a0_1):=(blk_cell BK303.out 1).trans rfl;have hfz11_0:=blk_frozen BK303.out 0;have hfz11_1:=blk_frozen BK303.out 1)|((with_reducible refine gate_callee (f:=16) rfl ?_);refine goesL_ (some 6) rfl rfl Try.func16 (by kernel_rfl) rfl #[.agg #[.int .i64 a0_0,.int .i64 a0_1]] rfl (by (try simp only [List.map_toArray,List.map_cons,List.map_nil]);first|done|rfl|(simp only [List.length_drop,List.length_take];rfl)) ?_;(with_reducible refine (shapesearchref01_Valid.calls k a0_0 a0_1 true _ A3.out).mono ?_);rintro e w12 ⟨rfl,hb⟩;refine ⟨_,rfl,?_⟩;have n0_:=A_ (blk_below (g:=gb303) (o:=.cells #[.int .i64 a0_0,.int .i64 a0_1] 29 (0,0)) (by (with_reducible repeat (first|refine blk_drewN ?_ _|refine blk_drew ?_|refine blk_alloc ?_ _));exact BK303.out) hb);have n1_:=A_ (blk_below (g:=gb304) (o:=.cells #[.int .i64 a1_0,.int .i64 a1_1] 29 (0,0)) (by (with_reducible repeat (first|refine blk_drewN ?_ _|refine blk_drew ?_|refine blk_alloc ?_ _));exact BK304.out) hb);have n2_:=A_ (below_step (by repeat (first|(with_reducible first|exact HB.out|apply ba|apply bb|apply bc|refine below_set ?_ GE303.out|refine below_set ?_ GE304.out)|exact HB.out)) hb);clear BK303;clear BK304;clear HB;have BK303:=n0_;have BK304:=n1_;have HB:=n2_;clear n0_ n1_ n2_;(try clear hb);(try clear hb2);(try clear hk);(try clear hi);have hcz13_0 : w12.cell? ⟨gb304,0,none⟩ = some (.int .i64 a1_0):=(blk_cell BK304.out 0).trans rfl;have hcz13_1 : w12.cell? ⟨gb304,1,none⟩ = some (.int .i64 a1_1):=(blk_cell BK304.out 1).trans rfl;have hfz13_0:=blk_frozen BK304.out 0;have hfz13_1:=blk_frozen BK304.out 1)|(go_at_call 16;(with_reducible refine (shapesearchref01_Valid.calls k a1_0 a1_1 true _ A5.out).mono ?_);rintro e w14 ⟨rfl,hb⟩;have n0_:=A_ (blk_below (g:=gb303) (o:=.cells #[.int .i64 a0_0,.int .i64 a0_1] 29 (0,0)) (by (with_reducible repeat (first|refine blk_drewN ?_ _|refine blk_drew ?_|refine blk_alloc ?_ _));exact BK303.out) hb);have n1_:=A_ (blk_below (g:=gb304) (o:=.cells #[.int .i64 a1_0,.int .i64 a1_1] 29 (0,0)) (by (with_reducible repeat (first|refine blk_drewN ?_ _|refine blk_drew ?_|refine blk_alloc ?_ _));exact BK304.out) hb);have n2_:=A_ (below_step (by repeat (first|(with_reducible first|exact HB.out|apply ba|apply bb|apply bc|refine below_set ?_ GE303.out|refine below_set ?_ GE304.out)|exact HB.out)) hb);clear BK303;clear BK304;clear HB;have BK303:=n0_;have BK304:=n1_;have HB:=n2_;clear n0_ n1_ n2_;(try clear hb);(try clear hb2);(try clear hk);(try clear hi);have hcz15_0 : w14.cell? ⟨gb303,0,none⟩ = some (.int .i64 a0_0):=(blk_cell BK303.out 0).trans rfl;have hcz15_1 : w14.cell? ⟨gb303,1,none⟩ = some (.int .i64 a0_1):=(blk_cell BK303.out 1).trans rfl;have hfz15_0:=blk_frozen BK303.out 0;have hfz15_1:=blk_frozen BK303.out 1;have hcz16_0 : w14.cell? ⟨gb304,0,none⟩ = some (.int .i64 a1_0):=(blk_cell BK304.out 0).trans rfl;have hcz16_1 : w14.cell? ⟨gb304,1,none⟩ = some (.int .i64 a1_1):=(blk_cell BK304.out 1).trans rfl;have hfz16_0:=blk_frozen BK304.out 0;have hfz16_1:=blk_frozen BK304.out 1)|((with_reducible refine gate_callee (f:=37) rfl ?_);refine goesL_ (some 21) rfl rfl Try.func37 (by kernel_rfl) rfl #[.int .i64 a0_0,.int .i64 a0_1,.int .i64 a1_0,.int .i64 a1_1] rfl (by (try simp only [List.map_toArray,List.map_cons,List.map_nil]);first|done|rfl|(simp only [List.length_drop,List.length_take];rfl)) ?_;(with_reducible refine (shapesearchref01_order.calls k a0_0 a0_1 a1_0 a1_1 t307 _ A7.out).mono ?_);rintro e w' ⟨rfl,⟨nd,rfl⟩⟩;refine ⟨_,rfl,?_⟩))
   go_ret
   exact ⟨by first|rfl|(simp [errW_none,errW_some] <;> rfl)|(simp [*,errW_none,errW_some] <;> rfl),by repeat (first|(with_reducible first|exact HB.out|apply ba|apply bb|apply bc|refine below_set ?_ GE303.out|refine below_set ?_ GE304.out)|exact HB.out)⟩
  ·
   replace c6:=Bool.eq_false_iff.mpr c6
   subst c6
   have H1 : (some 0) = some r:=by rw [if_neg (show ¬ (false = true) by decide)] at H;exact H
   clear H
   have H:=H1
   clear H1
   obtain rfl:=Option.some.inj H
   go_enter Try.func17,Try.ntmps17
   go_wp2_with (first|((with_reducible refine gate_dst (N:=2) rfl ?_);refine box_event ?hg (N:=2) ?hd (cs:=#[.int .i64 a0_0,.int .i64 a0_1]) (t:=29) ?hr ?_;(case hd=>rfl);(case hg=>rfl);(case hr=>first|(go_simp;done)|(go_simp;rfl));intro gb303 hg w17 hbox hb;have n0_:=A_ (below_step (by repeat (first|(with_reducible first|exact HB.out|apply ba|apply bb|apply bc)|exact HB.out)) hb);have n1_:=A_ (hbox);have n2_:=A_ ((by rw [hg];exact (below_size (by repeat (first|(with_reducible first|exact HB.out|apply ba|apply bb|apply bc)|exact HB.out))) : w.heap.size ≤ gb303));have n3_:=A_ ((by rw [hg];exact (below_size (by repeat (first|(with_reducible first|exact HB.out|apply ba|apply bb|apply bc)|exact HB.out))) : w.heap.size ≤ gb303));clear HB;have HB:=n0_;have BK303:=n1_;have GW303:=n2_;have GE303:=n3_;clear n0_ n1_ n2_ n3_;clear hb hbox hg)|((with_reducible refine gate_dst (N:=3) rfl ?_);refine box_event ?hg (N:=3) ?hd (cs:=#[.int .i64 a1_0,.int .i64 a1_1]) (t:=29) ?hr ?_;(case hd=>rfl);(case hg=>rfl);(case hr=>first|(go_simp;done)|(go_simp;rfl));intro gb304 hg w18 hbox hb;have n0_:=A_ (blk_below (g:=gb303) (o:=.cells #[.int .i64 a0_0,.int .i64 a0_1] 29 (0,0)) (by (with_reducible repeat (first|refine blk_drewN ?_ _|refine blk_drew ?_|refine blk_alloc ?_ _));exact BK303.out) hb);have n1_:=A_ (below_step (by repeat (first|(with_reducible first|exact HB.out|apply ba|apply bb|apply bc|refine below_set ?_ GE303.out)|exact HB.out)) hb);have n2_:=A_ (hbox);have n3_:=A_ ((by rw [hg];exact (below_size (by repeat (first|(with_reducible first|exact HB.out|apply ba|apply bb|apply bc|refine below_set ?_ GE303.out)|exact HB.out))) : w.heap.size ≤ gb304));have n4_:=A_ ((by rw [hg];exact (below_size (by repeat (first|(with_reducible first|exact HB.out|apply ba|apply bb|apply bc|refine below_set ?_ GE303.out)|exact HB.out))) : w.heap.size ≤ gb304));have n5_:=A_ ((by rw [hg];exact Nat.ne_of_lt (blk_lt (g:=gb303) (o:=.cells #[.int .i64 a0_0,.int .i64 a0_1] 29 (0,0)) (by (with_reducible repeat (first|refine blk_drewN ?_ _|refine blk_drew ?_|refine blk_alloc ?_ _));exact BK303.out)) : gb303≠gb304));have n6_:=A_ ((by rw [hg];exact Nat.ne_of_gt (blk_lt (g:=gb303) (o:=.cells #[.int .i64 a0_0,.int .i64 a0_1] 29 (0,0)) (by (with_reducible repeat (first|refine blk_drewN ?_ _|refine blk_drew ?_|refine blk_alloc ?_ _));exact BK303.out)) : gb304≠gb303));clear BK303;clear HB;have BK303:=n0_;have HB:=n1_;have BK304:=n2_;have GW304:=n3_;have GE304:=n4_;have NB303_304:=n5_;have NB304_303:=n6_;clear n0_ n1_ n2_ n3_ n4_ n5_ n6_;clear hb hbox hg;have hnb19:=NB303_304.out;have hnc19:=NB304_303.out;have hcz20_0 : w18.cell? ⟨gb303,0,none⟩ = some (.int .i64 a0_0):=(blk_cell BK303.out 0).trans rfl;have hcz20_1 : w18.cell? ⟨gb303,1,none⟩ = some (.int .i64 a0_1):=(blk_cell BK303.out 1).trans rfl;have hfz20_0:=blk_frozen BK303.out 0;have hfz20_1:=blk_frozen BK303.out 1)|((with_reducible refine gate_callee (f:=16) rfl ?_);refine goesL_ (some 6) rfl rfl Try.func16 (by kernel_rfl) rfl #[.agg #[.int .i64 a0_0,.int .i64 a0_1]] rfl (by (try simp only [List.map_toArray,List.map_cons,List.map_nil]);first|done|rfl|(simp only [List.length_drop,List.length_take];rfl)) ?_;(with_reducible refine (shapesearchref01_Valid.calls k a0_0 a0_1 true _ A3.out).mono ?_);rintro e w21 ⟨rfl,hb⟩;refine ⟨_,rfl,?_⟩;have n0_:=A_ (blk_below (g:=gb303) (o:=.cells #[.int .i64 a0_0,.int .i64 a0_1] 29 (0,0)) (by (with_reducible repeat (first|refine blk_drewN ?_ _|refine blk_drew ?_|refine blk_alloc ?_ _));exact BK303.out) hb);have n1_:=A_ (blk_below (g:=gb304) (o:=.cells #[.int .i64 a1_0,.int .i64 a1_1] 29 (0,0)) (by (with_reducible repeat (first|refine blk_drewN ?_ _|refine blk_drew ?_|refine blk_alloc ?_ _));exact BK304.out) hb);have n2_:=A_ (below_step (by repeat (first|(with_reducible first|exact HB.out|apply ba|apply bb|apply bc|refine below_set ?_ GE303.out|refine below_set ?_ GE304.out)|exact HB.out)) hb);clear BK303;clear BK304;clear HB;have BK303:=n0_;have BK304:=n1_;have HB:=n2_;clear n0_ n1_ n2_;(try clear hb);(try clear hb2);(try clear hk);(try clear hi);have hcz22_0 : w21.cell? ⟨gb304,0,none⟩ = some (.int .i64 a1_0):=(blk_cell BK304.out 0).trans rfl;have hcz22_1 : w21.cell? ⟨gb304,1,none⟩ = some (.int .i64 a1_1):=(blk_cell BK304.out 1).trans rfl;have hfz22_0:=blk_frozen BK304.out 0;have hfz22_1:=blk_frozen BK304.out 1)|(go_at_call 16;(with_reducible refine (shapesearchref01_Valid.calls k a1_0 a1_1 false _ A5.out).mono ?_);rintro e w23 ⟨rfl,hb⟩;have n0_:=A_ (blk_below (g:=gb303) (o:=.cells #[.int .i64 a0_0,.int .i64 a0_1] 29 (0,0)) (by (with_reducible repeat (first|refine blk_drewN ?_ _|refine blk_drew ?_|refine blk_alloc ?_ _));exact BK303.out) hb);have n1_:=A_ (blk_below (g:=gb304) (o:=.cells #[.int .i64 a1_0,.int .i64 a1_1] 29 (0,0)) (by (with_reducible repeat (first|refine blk_drewN ?_ _|refine blk_drew ?_|refine blk_alloc ?_ _));exact BK304.out) hb);have n2_:=A_ (below_step (by repeat (first|(with_reducible first|exact HB.out|apply ba|apply bb|apply bc|refine below_set ?_ GE303.out|refine below_set ?_ GE304.out)|exact HB.out)) hb);clear BK303;clear BK304;clear HB;have BK303:=n0_;have BK304:=n1_;have HB:=n2_;clear n0_ n1_ n2_;(try clear hb);(try clear hb2);(try clear hk);(try clear hi)))
   go_ret
   exact ⟨by first|rfl|(simp [errW_none,errW_some] <;> rfl)|(simp [*,errW_none,errW_some] <;> rfl),by repeat (first|(with_reducible first|exact HB.out|apply ba|apply bb|apply bc|refine below_set ?_ GE303.out|refine below_set ?_ GE304.out)|exact HB.out)⟩
 ·
  replace c4:=Bool.eq_false_iff.mpr c4
  subst c4
  have H1 : (some 0) = some r:=by rw [if_neg (show ¬ (false = true) by decide)] at H;exact H
  clear H
  have H:=H1
  clear H1
  obtain rfl:=Option.some.inj H
  go_enter Try.func17,Try.ntmps17
  go_wp2_with (first|((with_reducible refine gate_dst (N:=2) rfl ?_);refine box_event ?hg (N:=2) ?hd (cs:=#[.int .i64 a0_0,.int .i64 a0_1]) (t:=29) ?hr ?_;(case hd=>rfl);(case hg=>rfl);(case hr=>first|(go_simp;done)|(go_simp;rfl));intro gb303 hg w24 hbox hb;have n0_:=A_ (below_step (by repeat (first|(with_reducible first|exact HB.out|apply ba|apply bb|apply bc)|exact HB.out)) hb);have n1_:=A_ (hbox);have n2_:=A_ ((by rw [hg];exact (below_size (by repeat (first|(with_reducible first|exact HB.out|apply ba|apply bb|apply bc)|exact HB.out))) : w.heap.size ≤ gb303));have n3_:=A_ ((by rw [hg];exact (below_size (by repeat (first|(with_reducible first|exact HB.out|apply ba|apply bb|apply bc)|exact HB.out))) : w.heap.size ≤ gb303));clear HB;have HB:=n0_;have BK303:=n1_;have GW303:=n2_;have GE303:=n3_;clear n0_ n1_ n2_ n3_;clear hb hbox hg)|((with_reducible refine gate_dst (N:=3) rfl ?_);refine box_event ?hg (N:=3) ?hd (cs:=#[.int .i64 a1_0,.int .i64 a1_1]) (t:=29) ?hr ?_;(case hd=>rfl);(case hg=>rfl);(case hr=>first|(go_simp;done)|(go_simp;rfl));intro gb304 hg w25 hbox hb;have n0_:=A_ (blk_below (g:=gb303) (o:=.cells #[.int .i64 a0_0,.int .i64 a0_1] 29 (0,0)) (by (with_reducible repeat (first|refine blk_drewN ?_ _|refine blk_drew ?_|refine blk_alloc ?_ _));exact BK303.out) hb);have n1_:=A_ (below_step (by repeat (first|(with_reducible first|exact HB.out|apply ba|apply bb|apply bc|refine below_set ?_ GE303.out)|exact HB.out)) hb);have n2_:=A_ (hbox);have n3_:=A_ ((by rw [hg];exact (below_size (by repeat (first|(with_reducible first|exact HB.out|apply ba|apply bb|apply bc|refine below_set ?_ GE303.out)|exact HB.out))) : w.heap.size ≤ gb304));have n4_:=A_ ((by rw [hg];exact (below_size (by repeat (first|(with_reducible first|exact HB.out|apply ba|apply bb|apply bc|refine below_set ?_ GE303.out)|exact HB.out))) : w.heap.size ≤ gb304));have n5_:=A_ ((by rw [hg];exact Nat.ne_of_lt (blk_lt (g:=gb303) (o:=.cells #[.int .i64 a0_0,.int .i64 a0_1] 29 (0,0)) (by (with_reducible repeat (first|refine blk_drewN ?_ _|refine blk_drew ?_|refine blk_alloc ?_ _));exact BK303.out)) : gb303≠gb304));have n6_:=A_ ((by rw [hg];exact Nat.ne_of_gt (blk_lt (g:=gb303) (o:=.cells #[.int .i64 a0_0,.int .i64 a0_1] 29 (0,0)) (by (with_reducible repeat (first|refine blk_drewN ?_ _|refine blk_drew ?_|refine blk_alloc ?_ _));exact BK303.out)) : gb304≠gb303));clear BK303;clear HB;have BK303:=n0_;have HB:=n1_;have BK304:=n2_;have GW304:=n3_;have GE304:=n4_;have NB303_304:=n5_;have NB304_303:=n6_;clear n0_ n1_ n2_ n3_ n4_ n5_ n6_;clear hb hbox hg;have hnb26:=NB303_304.out;have hnc26:=NB304_303.out;have hcz27_0 : w25.cell? ⟨gb303,0,none⟩ = some (.int .i64 a0_0):=(blk_cell BK303.out 0).trans rfl;have hcz27_1 : w25.cell? ⟨gb303,1,none⟩ = some (.int .i64 a0_1):=(blk_cell BK303.out 1).trans rfl;have hfz27_0:=blk_frozen BK303.out 0;have hfz27_1:=blk_frozen BK303.out 1)|((with_reducible refine gate_callee (f:=16) rfl ?_);refine goesL_ (some 6) rfl rfl Try.func16 (by kernel_rfl) rfl #[.agg #[.int .i64 a0_0,.int .i64 a0_1]] rfl (by (try simp only [List.map_toArray,List.map_cons,List.map_nil]);first|done|rfl|(simp only [List.length_drop,List.length_take];rfl)) ?_;(with_reducible refine (shapesearchref01_Valid.calls k a0_0 a0_1 false _ A3.out).mono ?_);rintro e w28 ⟨rfl,hb⟩;refine ⟨_,rfl,?_⟩;have n0_:=A_ (blk_below (g:=gb303) (o:=.cells #[.int .i64 a0_0,.int .i64 a0_1] 29 (0,0)) (by (with_reducible repeat (first|refine blk_drewN ?_ _|refine blk_drew ?_|refine blk_alloc ?_ _));exact BK303.out) hb);have n1_:=A_ (blk_below (g:=gb304) (o:=.cells #[.int .i64 a1_0,.int .i64 a1_1] 29 (0,0)) (by (with_reducible repeat (first|refine blk_drewN ?_ _|refine blk_drew ?_|refine blk_alloc ?_ _));exact BK304.out) hb);have n2_:=A_ (below_step (by repeat (first|(with_reducible first|exact HB.out|apply ba|apply bb|apply bc|refine below_set ?_ GE303.out|refine below_set ?_ GE304.out)|exact HB.out)) hb);clear BK303;clear BK304;clear HB;have BK303:=n0_;have BK304:=n1_;have HB:=n2_;clear n0_ n1_ n2_;(try clear hb);(try clear hb2);(try clear hk);(try clear hi)))
  go_ret
  exact ⟨by first|rfl|(simp [errW_none,errW_some] <;> rfl)|(simp [*,errW_none,errW_some] <;> rfl),by repeat (first|(with_reducible first|exact HB.out|apply ba|apply bb|apply bc|refine below_set ?_ GE303.out|refine below_set ?_ GE304.out)|exact HB.out)⟩

/-! ### shapesearchref01_Less: function 18 -/
def shapesearchref01_Less.f (k : Nat) (a0_0 : Int) (a0_1 : Int) (a1_0 : Int) (a1_1 : Int) : Option (Bool):=(shapesearchref01_Cmp.f k a0_0 a0_1 a1_0 a1_1).bind fun t310=>(some (decide (t310 < 0)))
theorem shapesearchref01_Less.mono : ∀ a0 a1 a2 a3 k,LeO (shapesearchref01_Less.f k a0 a1 a2 a3) (shapesearchref01_Less.f (k + 1) a0 a1 a2 a3):=by
 intro a0 a1 a2 a3 k
 unfold shapesearchref01_Less.f
 repeat' first
   | (with_reducible exact shapesearchref01_Cmp.mono _ _ _ _ _)
   | (with_reducible exact LeO.refl _)
   | (with_reducible exact LeO.none _)
   | (with_reducible refine LeO.ite ?_ ?_)
   | (with_reducible refine LeO.bind ?_ (fun _=>?_))
   | exact shapesearchref01_Cmp.mono _ _ _ _ _
   | exact LeO.none _
   | refine LeO.ite ?_ ?_
   | refine LeO.bind ?_ (fun _=>?_)
set_option maxHeartbeats 8000000 in
set_option maxRecDepth 100000 in
theorem shapesearchref01_Less.calls (k : Nat) (a0_0 : Int) (a0_1 : Int) (a1_0 : Int) (a1_1 : Int) (r : Bool) (w : World) (h : shapesearchref01_Less.f k a0_0 a0_1 a1_0 a1_1 = some r) :
  Calls Try.prog 18 #[.agg #[.int .i64 a0_0,.int .i64 a0_1],.agg #[.int .i64 a1_0,.int .i64 a1_1]] w fun e w'=>e = .returned (.bool r)∧Below w.heap.size w w':=by
 have hu29:=Try.underlying29
 have HB:=A_ (Below.refl w.heap.size w)
 have H : ((shapesearchref01_Cmp.f k a0_0 a0_1 a1_0 a1_1).bind fun t310=>(some (decide (t310 < 0)))) = some r:=h
 clear h
 replace H:=Option.bind_eq_some_iff.mp H
 obtain ⟨t310,A30,H⟩:=H
 replace H : (some (decide (t310 < 0))) = some r:=H
 have A3:=A_ A30
 clear A30
 obtain rfl:=Option.some.inj H
 go_enter Try.func18,Try.ntmps18
 go_wp2_with (first|((with_reducible refine gate_dst (N:=2) rfl ?_);refine box_event ?hg (N:=2) ?hd (cs:=#[.int .i64 a0_0,.int .i64 a0_1]) (t:=29) ?hr ?_;(case hd=>rfl);(case hg=>rfl);(case hr=>first|(go_simp;done)|(go_simp;rfl));intro gb308 hg w4 hbox hb;have n0_:=A_ (below_step (by repeat (first|(with_reducible first|exact HB.out|apply ba|apply bb|apply bc)|exact HB.out)) hb);have n1_:=A_ (hbox);have n2_:=A_ ((by rw [hg];exact (below_size (by repeat (first|(with_reducible first|exact HB.out|apply ba|apply bb|apply bc)|exact HB.out))) : w.heap.size ≤ gb308));have n3_:=A_ ((by rw [hg];exact (below_size (by repeat (first|(with_reducible first|exact HB.out|apply ba|apply bb|apply bc)|exact HB.out))) : w.heap.size ≤ gb308));clear HB;have HB:=n0_;have BK308:=n1_;have GW308:=n2_;have GE308:=n3_;clear n0_ n1_ n2_ n3_;clear hb hbox hg)|((with_reducible refine gate_dst (N:=3) rfl ?_);refine box_event ?hg (N:=3) ?hd (cs:=#[.int .i64 a1_0,.int .i64 a1_1]) (t:=29) ?hr ?_;(case hd=>rfl);(case hg=>rfl);(case hr=>first|(go_simp;done)|(go_simp;rfl));intro gb309 hg w5 hbox hb;have n0_:=A_ (blk_below (g:=gb308) (o:=.cells #[.int .i64 a0_0,.int .i64 a0_1] 29 (0,0)) (by (with_reducible repeat (first|refine blk_drewN ?_ _|refine blk_drew ?_|refine blk_alloc ?_ _));exact BK308.out) hb);have n1_:=A_ (below_step (by repeat (first|(with_reducible first|exact HB.out|apply ba|apply bb|apply bc|refine below_set ?_ GE308.out)|exact HB.out)) hb);have n2_:=A_ (hbox);have n3_:=A_ ((by rw [hg];exact (below_size (by repeat (first|(with_reducible first|exact HB.out|apply ba|apply bb|apply bc|refine below_set ?_ GE308.out)|exact HB.out))) : w.heap.size ≤ gb309));have n4_:=A_ ((by rw [hg];exact (below_size (by repeat (first|(with_reducible first|exact HB.out|apply ba|apply bb|apply bc|refine below_set ?_ GE308.out)|exact HB.out))) : w.heap.size ≤ gb309));have n5_:=A_ ((by rw [hg];exact Nat.ne_of_lt (blk_lt (g:=gb308) (o:=.cells #[.int .i64 a0_0,.int .i64 a0_1] 29 (0,0)) (by (with_reducible repeat (first|refine blk_drewN ?_ _|refine blk_drew ?_|refine blk_alloc ?_ _));exact BK308.out)) : gb308≠gb309));have n6_:=A_ ((by rw [hg];exact Nat.ne_of_gt (blk_lt (g:=gb308) (o:=.cells #[.int .i64 a0_0,.int .i64 a0_1] 29 (0,0)) (by (with_reducible repeat (first|refine blk_drewN ?_ _|refine blk_drew ?_|refine blk_alloc ?_ _));exact BK308.out)) : gb309≠gb308));clear BK308;clear HB;have BK308:=n0_;have HB:=n1_;have BK309:=n2_;have GW309:=n3_;have GE309:=n4_;have NB308_309:=n5_;have NB309_308:=n6_;clear n0_ n1_ n2_ n3_ n4_ n5_ n6_;clear hb hbox hg;have hnb6:=NB308_309.out;have hnc6:=NB309_308.out;have hcz7_0 : w5.cell? ⟨gb308,0,none⟩ = some (.int .i64 a0_0):=(blk_cell BK308.out 0).trans rfl;have hcz7_1 : w5.cell? ⟨gb308,1,none⟩ = some (.int .i64 a0_1):=(blk_cell BK308.out 1).trans rfl;have hfz7_0:=blk_frozen BK308.out 0;have hfz7_1:=blk_frozen BK308.out 1;have hcz8_0 : w5.cell? ⟨gb309,0,none⟩ = some (.int .i64 a1_0):=(blk_cell BK309.out 0).trans rfl;have hcz8_1 : w5.cell? ⟨gb309,1,none⟩ = some (.int .i64 a1_1):=(blk_cell BK309.out 1).trans rfl;have hfz8_0:=blk_frozen BK309.out 0;have hfz8_1:=blk_frozen BK309.out 1)|((with_reducible refine gate_callee (f:=17) rfl ?_);refine goesL_ (some 7) rfl rfl Try.func17 (by kernel_rfl) rfl #[.agg #[.int .i64 a0_0,.int .i64 a0_1],.agg #[.int .i64 a1_0,.int .i64 a1_1]] rfl (by (try simp only [List.map_toArray,List.map_cons,List.map_nil]);first|done|rfl|(simp only [List.length_drop,List.length_take];rfl)) ?_;(with_reducible refine (shapesearchref01_Cmp.calls k a0_0 a0_1 a1_0 a1_1 t310 _ A3.out).mono ?_);rintro e w9 ⟨rfl,hb⟩;refine ⟨_,rfl,?_⟩;have n0_:=A_ (blk_below (g:=gb308) (o:=.cells #[.int .i64 a0_0,.int .i64 a0_1] 29 (0,0)) (by (with_reducible repeat (first|refine blk_drewN ?_ _|refine blk_drew ?_|refine blk_alloc ?_ _));exact BK308.out) hb);have n1_:=A_ (blk_below (g:=gb309) (o:=.cells #[.int .i64 a1_0,.int .i64 a1_1] 29 (0,0)) (by (with_reducible repeat (first|refine blk_drewN ?_ _|refine blk_drew ?_|refine blk_alloc ?_ _));exact BK309.out) hb);have n2_:=A_ (below_step (by repeat (first|(with_reducible first|exact HB.out|apply ba|apply bb|apply bc|refine below_set ?_ GE308.out|refine below_set ?_ GE309.out)|exact HB.out)) hb);clear BK308;clear BK309;clear HB;have BK308:=n0_;have BK309:=n1_;have HB:=n2_;clear n0_ n1_ n2_;(try clear hb);(try clear hb2);(try clear hk);(try clear hi)))
 go_ret
 exact ⟨by first|rfl|(simp [errW_none,errW_some] <;> rfl)|(simp [*,errW_none,errW_some] <;> rfl),by repeat (first|(with_reducible first|exact HB.out|apply ba|apply bb|apply bc|refine below_set ?_ GE308.out|refine below_set ?_ GE309.out)|exact HB.out)⟩

end Go.Proofs.Ytmckmjpfcgmalaa.PNormalRange
