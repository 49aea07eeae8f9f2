/- This file proves, function by function, what the Go functions that one law uses compute; most of it was printed by a program (wip/tools of this session, over the kit's print). -/
import Derived.Test.YtodipcfbgnljeaaPChannelsMorex0
namespace Go.Proofs.Ytodipcfbgnljeaa.PChannelsMore
open Go.RowKit Go.Proofs.YtodipcfbgnljeaaW.PrintWords Go.Proofs.YtodipcfbgnljeaaW.PrintLast Go.Proofs.YtodipcfbgnljeaaW.PrintMore
attribute [local go_sem] max2_int min2_int max_two min_two max_three min_three max_four min_four   -- for this text's walks alone
set_option linter.unusedVariables false
set_option linter.unusedSimpArgs false

/-! ### shapesearchref01_common: function 64 -/
def shapesearchref01_common.l0 : Nat → Int → Int → Option (Int)
 | 0,_,_=>none
 | k + 1,x0,x1=>if x1 > 0 then (if x1 = 0 then (none) else (shapesearchref01_common.l0 k x1 (Int.tmod x0 x1))) else (some x0)
def shapesearchref01_common.f (k : Nat) (a0 : Int) (a1 : Int) : Option (Int):=shapesearchref01_common.l0 k a0 a1
theorem shapesearchref01_common.mono_l : ∀ k,(∀ y0 y1,LeO (shapesearchref01_common.l0 k y0 y1) (shapesearchref01_common.l0 (k + 1) y0 y1))
 | 0=>fun _ _ r h=>by simp [shapesearchref01_common.l0] at h
 | k + 1=>by
  have ih0:=shapesearchref01_common.mono_l k
  ·
   intro y0 y1
   unfold shapesearchref01_common.l0
   repeat' first
   | (with_reducible exact ih0 _ _)
   | (with_reducible exact LeO.refl _)
   | (with_reducible exact LeO.none _)
   | (with_reducible refine LeO.ite ?_ ?_)
   | (with_reducible refine LeO.bind ?_ (fun _=>?_))
   | exact ih0 _ _
   | exact LeO.none _
   | refine LeO.ite ?_ ?_
   | refine LeO.bind ?_ (fun _=>?_)
theorem shapesearchref01_common.mono : ∀ a0 a1 k,LeO (shapesearchref01_common.f k a0 a1) (shapesearchref01_common.f (k + 1) a0 a1):=by
 intro a0 a1 k
 have ih0:=shapesearchref01_common.mono_l k
 unfold shapesearchref01_common.f
 repeat' first
  | (with_reducible exact ih0 _ _)
  | (with_reducible exact LeO.refl _)
  | (with_reducible exact LeO.none _)
  | (with_reducible refine LeO.ite ?_ ?_)
  | (with_reducible refine LeO.bind ?_ (fun _=>?_))
  | exact ih0 _ _
  | exact LeO.none _
  | refine LeO.ite ?_ ?_
  | refine LeO.bind ?_ (fun _=>?_)
set_option maxHeartbeats 8000000 in
set_option maxRecDepth 100000 in
theorem shapesearchref01_common.calls (k : Nat) (a0 : Int) (a1 : Int) (r : Int) (w : World) (h : shapesearchref01_common.f k a0 a1 = some r) :
 Calls Try.prog 64 #[.int .i64 a0,.int .i64 a1] w fun e w'=>e = .returned (.int .i64 r)∧Drawn0 w w':=by
 have H : (shapesearchref01_common.l0 k a0 a1) = some r:=h
 clear h
 have H':=A_ H
 clear H
 go_enter Try.func64,Try.ntmps64
 go_wp2
 repeat (go_quiet (fail);try go_wp2)
 go_loopg [0,1] k (fun kq v0 v1 w'=>∃ (x0_1 : Int) (x1_1 : Int),v0 = .int .i64 x0_1∧v1 = .int .i64 x1_1∧Aside0 (shapesearchref01_common.l0 kq x0_1 x1_1 = some r)∧Aside0 (kq ≤ k)∧Drawn0 w w')
 case atStart=>exact ⟨(a0),(a1),(by first|rfl|(simp;done)|(simp [*];done)),(by first|rfl|(simp;done)|(simp [*];done)),H',⟨Nat.le_refl _⟩,by repeat (first|exact Drawn0.refl _|apply Drawn0.step)⟩
 case round =>
  clear H'
  try clear p2
  obtain ⟨x0_1,x1_1,rfl,rfl,HA,HK1,⟨m1,rfl⟩⟩:=hrel
  cases gk with
  | zero=>exact absurd HA.out (by simp [shapesearchref01_common.l0])
  | succ k1 =>
   have H:=HA.out
   clear HA
   simp only [shapesearchref01_common.l0] at H
   by_cases c3 : x1_1 > 0
   ·
    rw [if_pos c3] at H
    have c3b0 : decide (0 < x1_1) = true:=decide_eq_true c3
    clear c3
    by_cases c4 : x1_1 = 0
    ·
     rw [if_pos c4] at H
     exact absurd H (by simp)
    ·
     rw [if_neg c4] at H
     have c4b0 : (x1_1 == 0) = false:=beq_eq_false_iff_ne.mpr c4
     have c4b1 : (x1_1 != 0) = true:=bne_iff_ne.mpr c4
     have H':=A_ H
     clear H
     go_wp2
     repeat (go_quiet (fail);try go_wp2)
     go_roundg k1
     case measure=>have:=HK1.out;omega
     case rel=>exact ⟨(x1_1),(Int.tmod x0_1 x1_1),(by first|rfl|(simp;done)|(simp [*];done)),(by first|rfl|(simp;done)|(simp [*];done)),H',⟨by have:=HK1.out;omega⟩,by repeat (first|exact Drawn0.refl _|apply Drawn0.step)⟩
   ·
    rw [if_neg c3] at H
    have c3b0 : decide (0 < x1_1) = false:=decide_eq_false c3
    clear c3
    obtain rfl:=Option.some.inj H
    go_wp2
    repeat (go_quiet (fail);try go_wp2)
    go_ret
    exact ⟨by first|rfl|(simp;done)|(simp [*];done),by repeat (first|exact Drawn0.refl _|apply Drawn0.step)⟩

/-! ### shapesearchref01_Valid: function 42 -/
def shapesearchref01_Valid.f (k : Nat) (a0_0 : Int) (a0_1 : Int) : Option (Bool):=if a0_0 ≥ 0 then (if a0_0 ≤ 2305843009213693952 then (if a0_1 ≥ 1 then (if a0_1 ≤ 1152921504606846976 then ((shapesearchref01_common.f k a0_0 a0_1).bind fun t323=>(some (t323 == 1))) else (some false)) else (some false)) else (some false)) else (some false)
theorem shapesearchref01_Valid.mono : ∀ a0 a1 k,LeO (shapesearchref01_Valid.f k a0 a1) (shapesearchref01_Valid.f (k + 1) a0 a1):=by
 intro a0 a1 k
 unfold shapesearchref01_Valid.f
 repeat' first
  | (with_reducible exact shapesearchref01_common.mono _ _ _)
  | (with_reducible exact LeO.refl _)
  | (with_reducible exact LeO.none _)
  | (with_reducible refine LeO.ite ?_ ?_)
  | (with_reducible refine LeO.bind ?_ (fun _=>?_))
  | exact shapesearchref01_common.mono _ _ _
  | exact LeO.none _
  | refine LeO.ite ?_ ?_
  | refine LeO.bind ?_ (fun _=>?_)
set_option maxHeartbeats 8000000 in
set_option maxRecDepth 100000 in
theorem shapesearchref01_Valid.calls (k : Nat) (a0_0 : Int) (a0_1 : Int) (r : Bool) (w : World) (h : shapesearchref01_Valid.f k a0_0 a0_1 = some r) :
 Calls Try.prog 42 #[.agg #[.int .i64 a0_0,.int .i64 a0_1]] w fun e w'=>e = .returned (.bool r)∧Below w.heap.size w w':=by
 have hu36:=Try.underlying36
 have HB:=A_ (Below.refl w.heap.size w)
 have H : (if a0_0 ≥ 0 then (if a0_0 ≤ 2305843009213693952 then (if a0_1 ≥ 1 then (if a0_1 ≤ 1152921504606846976 then ((shapesearchref01_common.f k a0_0 a0_1).bind fun t323=>(some (t323 == 1))) else (some false)) else (some false)) else (some false)) else (some false)) = some r:=h
 clear h
 by_cases c2 : a0_0 ≥ 0
 ·
  rw [if_pos c2] at H
  have c2b0 : decide (0 ≤ a0_0) = true:=decide_eq_true c2
  clear c2
  by_cases c3 : a0_0 ≤ 2305843009213693952
  ·
   rw [if_pos c3] at H
   have c3b0 : decide (a0_0 ≤ 2305843009213693952) = true:=decide_eq_true c3
   clear c3
   by_cases c4 : a0_1 ≥ 1
   ·
    rw [if_pos c4] at H
    have c4b0 : decide (1 ≤ a0_1) = true:=decide_eq_true c4
    clear c4
    by_cases c5 : a0_1 ≤ 1152921504606846976
    ·
     rw [if_pos c5] at H
     have c5b0 : decide (a0_1 ≤ 1152921504606846976) = true:=decide_eq_true c5
     clear c5
     replace H:=Option.bind_eq_some_iff.mp H
     obtain ⟨t323,A60,H⟩:=H
     replace H : (some (t323 == 1)) = some r:=H
     have A6:=A_ A60
     clear A60
     obtain rfl:=Option.some.inj H
     go_enter Try.func42,Try.ntmps42
     go_wp2_with (first|((with_reducible refine gate_dst (N:=1) rfl ?_);refine box_event ?hg (N:=1) ?hd (cs:=#[.int .i64 a0_0,.int .i64 a0_1]) (t:=36) ?hr ?_;(case hd=>rfl);(case hg=>rfl);(case hr=>first|(go_simp;done)|(go_simp;rfl));intro gb322 hg w7 hbox hb;have n0_:=A_ (below_step (by repeat (first|(with_reducible first|exact HB.out|apply ba|apply bb|apply bc)|exact HB.out)) hb);have n1_:=A_ (hbox);have n2_:=A_ ((by rw [hg];exact (below_size (by repeat (first|(with_reducible first|exact HB.out|apply ba|apply bb|apply bc)|exact HB.out))) : w.heap.size ≤ gb322));have n3_:=A_ ((by rw [hg];exact (below_size (by repeat (first|(with_reducible first|exact HB.out|apply ba|apply bb|apply bc)|exact HB.out))) : w.heap.size ≤ gb322));clear HB;have HB:=n0_;have BK322:=n1_;have GW322:=n2_;have GE322:=n3_;clear n0_ n1_ n2_ n3_;clear hb hbox hg;have hcz8_0 : w7.cell? ⟨gb322,0,none⟩ = some (.int .i64 a0_0):=(blk_cell BK322.out 0).trans rfl;have hcz8_1 : w7.cell? ⟨gb322,1,none⟩ = some (.int .i64 a0_1):=(blk_cell BK322.out 1).trans rfl;have hfz8_0:=blk_frozen BK322.out 0;have hfz8_1:=blk_frozen BK322.out 1)|(go_at_call 64;(with_reducible refine (shapesearchref01_common.calls k a0_0 a0_1 t323 _ A6.out).mono ?_);rintro e w' ⟨rfl,⟨nd,rfl⟩⟩))
     go_ret
     exact ⟨by first|rfl|(simp [errW_none,errW_some] <;> rfl)|(simp [*,errW_none,errW_some] <;> rfl),by repeat (first|(with_reducible first|exact HB.out|apply ba|apply bb|apply bc|refine below_set ?_ GE322.out)|exact HB.out)⟩
    ·
     rw [if_neg c5] at H
     have c5b0 : decide (a0_1 ≤ 1152921504606846976) = false:=decide_eq_false c5
     clear c5
     obtain rfl:=Option.some.inj H
     go_enter Try.func42,Try.ntmps42
     go_wp2_with (first|((with_reducible refine gate_dst (N:=1) rfl ?_);refine box_event ?hg (N:=1) ?hd (cs:=#[.int .i64 a0_0,.int .i64 a0_1]) (t:=36) ?hr ?_;(case hd=>rfl);(case hg=>rfl);(case hr=>first|(go_simp;done)|(go_simp;rfl));intro gb322 hg w9 hbox hb;have n0_:=A_ (below_step (by repeat (first|(with_reducible first|exact HB.out|apply ba|apply bb|apply bc)|exact HB.out)) hb);have n1_:=A_ (hbox);have n2_:=A_ ((by rw [hg];exact (below_size (by repeat (first|(with_reducible first|exact HB.out|apply ba|apply bb|apply bc)|exact HB.out))) : w.heap.size ≤ gb322));have n3_:=A_ ((by rw [hg];exact (below_size (by repeat (first|(with_reducible first|exact HB.out|apply ba|apply bb|apply bc)|exact HB.out))) : w.heap.size ≤ gb322));clear HB;have HB:=n0_;have BK322:=n1_;have GW322:=n2_;have GE322:=n3_;clear n0_ n1_ n2_ n3_;clear hb hbox hg;have hcz10_0 : w9.cell? ⟨gb322,0,none⟩ = some (.int .i64 a0_0):=(blk_cell BK322.out 0).trans rfl;have hcz10_1 : w9.cell? ⟨gb322,1,none⟩ = some (.int .i64 a0_1):=(blk_cell BK322.out 1).trans rfl;have hfz10_0:=blk_frozen BK322.out 0;have hfz10_1:=blk_frozen BK322.out 1))
     go_ret
     exact ⟨by first|rfl|(simp [errW_none,errW_some] <;> rfl)|(simp [*,errW_none,errW_some] <;> rfl),by repeat (first|(with_reducible first|exact HB.out|apply ba|apply bb|apply bc|refine below_set ?_ GE322.out)|exact HB.out)⟩
   ·
    rw [if_neg c4] at H
    have c4b0 : decide (1 ≤ a0_1) = false:=decide_eq_false c4
    clear c4
    obtain rfl:=Option.some.inj H
    go_enter Try.func42,Try.ntmps42
    go_wp2_with (first|((with_reducible refine gate_dst (N:=1) rfl ?_);refine box_event ?hg (N:=1) ?hd (cs:=#[.int .i64 a0_0,.int .i64 a0_1]) (t:=36) ?hr ?_;(case hd=>rfl);(case hg=>rfl);(case hr=>first|(go_simp;done)|(go_simp;rfl));intro gb322 hg w11 hbox hb;have n0_:=A_ (below_step (by repeat (first|(with_reducible first|exact HB.out|apply ba|apply bb|apply bc)|exact HB.out)) hb);have n1_:=A_ (hbox);have n2_:=A_ ((by rw [hg];exact (below_size (by repeat (first|(with_reducible first|exact HB.out|apply ba|apply bb|apply bc)|exact HB.out))) : w.heap.size ≤ gb322));have n3_:=A_ ((by rw [hg];exact (below_size (by repeat (first|(with_reducible first|exact HB.out|apply ba|apply bb|apply bc)|exact HB.out))) : w.heap.size ≤ gb322));clear HB;have HB:=n0_;have BK322:=n1_;have GW322:=n2_;have GE322:=n3_;clear n0_ n1_ n2_ n3_;clear hb hbox hg;have hcz12_0 : w11.cell? ⟨gb322,0,none⟩ = some (.int .i64 a0_0):=(blk_cell BK322.out 0).trans rfl;have hcz12_1 : w11.cell? ⟨gb322,1,none⟩ = some (.int .i64 a0_1):=(blk_cell BK322.out 1).trans rfl;have hfz12_0:=blk_frozen BK322.out 0;have hfz12_1:=blk_frozen BK322.out 1))
    go_ret
    exact ⟨by first|rfl|(simp [errW_none,errW_some] <;> rfl)|(simp [*,errW_none,errW_some] <;> rfl),by repeat (first|(with_reducible first|exact HB.out|apply ba|apply bb|apply bc|refine below_set ?_ GE322.out)|exact HB.out)⟩
  ·
   rw [if_neg c3] at H
   have c3b0 : decide (a0_0 ≤ 2305843009213693952) = false:=decide_eq_false c3
   clear c3
   obtain rfl:=Option.some.inj H
   go_enter Try.func42,Try.ntmps42
   go_wp2_with (first|((with_reducible refine gate_dst (N:=1) rfl ?_);refine box_event ?hg (N:=1) ?hd (cs:=#[.int .i64 a0_0,.int .i64 a0_1]) (t:=36) ?hr ?_;(case hd=>rfl);(case hg=>rfl);(case hr=>first|(go_simp;done)|(go_simp;rfl));intro gb322 hg w13 hbox hb;have n0_:=A_ (below_step (by repeat (first|(with_reducible first|exact HB.out|apply ba|apply bb|apply bc)|exact HB.out)) hb);have n1_:=A_ (hbox);have n2_:=A_ ((by rw [hg];exact (below_size (by repeat (first|(with_reducible first|exact HB.out|apply ba|apply bb|apply bc)|exact HB.out))) : w.heap.size ≤ gb322));have n3_:=A_ ((by rw [hg];exact (below_size (by repeat (first|(with_reducible first|exact HB.out|apply ba|apply bb|apply bc)|exact HB.out))) : w.heap.size ≤ gb322));clear HB;have HB:=n0_;have BK322:=n1_;have GW322:=n2_;have GE322:=n3_;clear n0_ n1_ n2_ n3_;clear hb hbox hg;have hcz14_0 : w13.cell? ⟨gb322,0,none⟩ = some (.int .i64 a0_0):=(blk_cell BK322.out 0).trans rfl;have hcz14_1 : w13.cell? ⟨gb322,1,none⟩ = some (.int .i64 a0_1):=(blk_cell BK322.out 1).trans rfl;have hfz14_0:=blk_frozen BK322.out 0;have hfz14_1:=blk_frozen BK322.out 1))
   go_ret
   exact ⟨by first|rfl|(simp [errW_none,errW_some] <;> rfl)|(simp [*,errW_none,errW_some] <;> rfl),by repeat (first|(with_reducible first|exact HB.out|apply ba|apply bb|apply bc|refine below_set ?_ GE322.out)|exact HB.out)⟩
 ·
  rw [if_neg c2] at H
  have c2b0 : decide (0 ≤ a0_0) = false:=decide_eq_false c2
  clear c2
  obtain rfl:=Option.some.inj H
  go_enter Try.func42,Try.ntmps42
  go_wp2_with (first|((with_reducible refine gate_dst (N:=1) rfl ?_);refine box_event ?hg (N:=1) ?hd (cs:=#[.int .i64 a0_0,.int .i64 a0_1]) (t:=36) ?hr ?_;(case hd=>rfl);(case hg=>rfl);(case hr=>first|(go_simp;done)|(go_simp;rfl));intro gb322 hg w15 hbox hb;have n0_:=A_ (below_step (by repeat (first|(with_reducible first|exact HB.out|apply ba|apply bb|apply bc)|exact HB.out)) hb);have n1_:=A_ (hbox);have n2_:=A_ ((by rw [hg];exact (below_size (by repeat (first|(with_reducible first|exact HB.out|apply ba|apply bb|apply bc)|exact HB.out))) : w.heap.size ≤ gb322));have n3_:=A_ ((by rw [hg];exact (below_size (by repeat (first|(with_reducible first|exact HB.out|apply ba|apply bb|apply bc)|exact HB.out))) : w.heap.size ≤ gb322));clear HB;have HB:=n0_;have BK322:=n1_;have GW322:=n2_;have GE322:=n3_;clear n0_ n1_ n2_ n3_;clear hb hbox hg;have hcz16_0 : w15.cell? ⟨gb322,0,none⟩ = some (.int .i64 a0_0):=(blk_cell BK322.out 0).trans rfl;have hcz16_1 : w15.cell? ⟨gb322,1,none⟩ = some (.int .i64 a0_1):=(blk_cell BK322.out 1).trans rfl;have hfz16_0:=blk_frozen BK322.out 0;have hfz16_1:=blk_frozen BK322.out 1))
  go_ret
  exact ⟨by first|rfl|(simp [errW_none,errW_some] <;> rfl)|(simp [*,errW_none,errW_some] <;> rfl),by repeat (first|(with_reducible first|exact HB.out|apply ba|apply bb|apply bc|refine below_set ?_ GE322.out)|exact HB.out)⟩

/-! ### shapesearchref01_order: function 43 -/
mutual
def shapesearchref01_order.j0 : Nat → Int → Int → Int → Int → Bool → Option (Int)
 | 0,_,_,_,_,_=>none
 | k + 1,x0,x1,x2,x3,x29=>if x29 = true then (some 0) else (if x0 = 0 then (some (-1)) else (if x2 = 0 then (some 1) else ((shapesearchref01_order.f k x3 x2 x1 x0).bind fun t324=>(some t324))))
def shapesearchref01_order.f : Nat → Int → Int → Int → Int → Option (Int)
 | 0,_,_,_,_=>none
 | k + 1,a0,a1,a2,a3=>if a1 = 0 then (none) else (if a3 = 0 then (none) else (if (wrap64 (Int.tdiv a0 a1)) = (wrap64 (Int.tdiv a2 a3)) then (if (Int.tmod a0 a1) = 0 then (shapesearchref01_order.j0 k (Int.tmod a0 a1) a1 (Int.tmod a2 a3) a3 ((Int.tmod a2 a3) == 0)) else (shapesearchref01_order.j0 k (Int.tmod a0 a1) a1 (Int.tmod a2 a3) a3 false)) else (if (wrap64 (Int.tdiv a0 a1)) < (wrap64 (Int.tdiv a2 a3)) then (some (-1)) else (some 1))))
end
theorem shapesearchref01_order.mono_l : ∀ k,(∀ y0 y1 y2 y3,LeO (shapesearchref01_order.f k y0 y1 y2 y3) (shapesearchref01_order.f (k + 1) y0 y1 y2 y3))∧(∀ y0 y1 y2 y3 y4,LeO (shapesearchref01_order.j0 k y0 y1 y2 y3 y4) (shapesearchref01_order.j0 (k + 1) y0 y1 y2 y3 y4))
 | 0=>⟨fun _ _ _ _ r h=>by simp [shapesearchref01_order.f] at h,fun _ _ _ _ _ r h=>by simp [shapesearchref01_order.j0] at h⟩
 | k + 1=>by
  obtain ⟨ih0,ih1⟩:=shapesearchref01_order.mono_l k
  refine ⟨?_,?_⟩
  ·
   intro y0 y1 y2 y3
   unfold shapesearchref01_order.f
   repeat' first
   | (with_reducible exact ih0 _ _ _ _)
   | (with_reducible exact ih1 _ _ _ _ _)
   | (with_reducible exact LeO.refl _)
   | (with_reducible exact LeO.none _)
   | (with_reducible refine LeO.ite ?_ ?_)
   | (with_reducible refine LeO.bind ?_ (fun _=>?_))
   | exact ih0 _ _ _ _
   | exact ih1 _ _ _ _ _
   | exact LeO.none _
   | refine LeO.ite ?_ ?_
   | refine LeO.bind ?_ (fun _=>?_)
  ·
   intro y0 y1 y2 y3 y4
   unfold shapesearchref01_order.j0
   repeat' first
   | (with_reducible exact ih0 _ _ _ _)
   | (with_reducible exact ih1 _ _ _ _ _)
   | (with_reducible exact LeO.refl _)
   | (with_reducible exact LeO.none _)
   | (with_reducible refine LeO.ite ?_ ?_)
   | (with_reducible refine LeO.bind ?_ (fun _=>?_))
   | exact ih0 _ _ _ _
   | exact ih1 _ _ _ _ _
   | exact LeO.none _
   | refine LeO.ite ?_ ?_
   | refine LeO.bind ?_ (fun _=>?_)
theorem shapesearchref01_order.mono : ∀ a0 a1 a2 a3 k,LeO (shapesearchref01_order.f k a0 a1 a2 a3) (shapesearchref01_order.f (k + 1) a0 a1 a2 a3):=by
 intro a0 a1 a2 a3 k
 obtain ⟨ih0,ih1⟩:=shapesearchref01_order.mono_l k
 exact ih0 a0 a1 a2 a3
set_option maxHeartbeats 8000000 in
set_option maxRecDepth 100000 in
theorem shapesearchref01_order.calls (k : Nat) : ∀ (a0 : Int) (a1 : Int) (a2 : Int) (a3 : Int) (r : Int) (w : World) (h : shapesearchref01_order.f k a0 a1 a2 a3 = some r),
 Calls Try.prog 43 #[.int .i64 a0,.int .i64 a1,.int .i64 a2,.int .i64 a3] w fun e w'=>e = .returned (.int .i64 r)∧Drawn0 w w':=by
 induction k using Nat.strongRecOn with
 | _ k ih =>
 intro a0 a1 a2 a3 r w h
 cases k with
 | zero=>exact absurd h (by simp [shapesearchref01_order.f])
 | succ k =>
 simp only [shapesearchref01_order.f] at h
 have H : (if a1 = 0 then (none) else (if a3 = 0 then (none) else (if (wrap64 (Int.tdiv a0 a1)) = (wrap64 (Int.tdiv a2 a3)) then (if (Int.tmod a0 a1) = 0 then (shapesearchref01_order.j0 k (Int.tmod a0 a1) a1 (Int.tmod a2 a3) a3 ((Int.tmod a2 a3) == 0)) else (shapesearchref01_order.j0 k (Int.tmod a0 a1) a1 (Int.tmod a2 a3) a3 false)) else (if (wrap64 (Int.tdiv a0 a1)) < (wrap64 (Int.tdiv a2 a3)) then (some (-1)) else (some 1))))) = some r:=h
 clear h
 by_cases c5 : a1 = 0
 ·
  rw [if_pos c5] at H
  exact absurd H (by simp)
 ·
  rw [if_neg c5] at H
  have c5b0 : (a1 == 0) = false:=beq_eq_false_iff_ne.mpr c5
  have c5b1 : (a1 != 0) = true:=bne_iff_ne.mpr c5
  by_cases c6 : a3 = 0
  ·
   rw [if_pos c6] at H
   exact absurd H (by simp)
  ·
   rw [if_neg c6] at H
   have c6b0 : (a3 == 0) = false:=beq_eq_false_iff_ne.mpr c6
   have c6b1 : (a3 != 0) = true:=bne_iff_ne.mpr c6
   by_cases c7 : (wrap64 (Int.tdiv a0 a1)) = (wrap64 (Int.tdiv a2 a3))
   ·
    rw [if_pos c7] at H
    have c7b0 : ((wrap64 (Int.tdiv a0 a1)) == (wrap64 (Int.tdiv a2 a3))) = true:=beq_iff_eq.mpr c7
    have c7b1 : ((wrap64 (Int.tdiv a0 a1)) != (wrap64 (Int.tdiv a2 a3))) = false:=bne_eq_false_iff_eq.mpr c7
    clear c7
    have HC8:=A_ H
    clear H
    go_enter Try.func43,Try.ntmps43
    go_upto_region 7 with (fail)
    repeat (go_quiet (fail);go_upto_region 7 with (fail))
    go_cut [29] (fun v29 wc=>∃ (kq : Nat) (x29_7 : Bool),v29 = .bool x29_7∧Aside0 (shapesearchref01_order.j0 kq (Int.tmod a0 a1) a1 (Int.tmod a2 a3) a3 x29_7 = some r)∧Aside0 (kq ≤ k)∧Drawn0 w wc)
    case first =>
     have H:=HC8.out
     clear HC8
     by_cases c9 : (Int.tmod a0 a1) = 0
     ·
      rw [if_pos c9] at H
      have c9b0 : ((Int.tmod a0 a1) == 0) = true:=beq_iff_eq.mpr c9
      have c9b1 : ((Int.tmod a0 a1) != 0) = false:=bne_eq_false_iff_eq.mpr c9
      clear c9
      (first|rw [c9b0]|(simp only [i64_w,i32_w];rw [c9b0])|skip)
      have H':=A_ H
      clear H
      go_wp2
      repeat (go_quiet (fail);try go_wp2)
      go_meet
      case rel=>exact ⟨_,(((Int.tmod a2 a3) == 0)),(by first|rfl|(simp;done)|(simp [*];done)),H',⟨by first|omega|exact Nat.le_refl _⟩,by repeat (first|exact Drawn0.refl _|apply Drawn0.step)⟩
     ·
      rw [if_neg c9] at H
      have c9b0 : ((Int.tmod a0 a1) == 0) = false:=beq_eq_false_iff_ne.mpr c9
      have c9b1 : ((Int.tmod a0 a1) != 0) = true:=bne_iff_ne.mpr c9
      (first|rw [c9b0]|(simp only [i64_w,i32_w];rw [c9b0])|skip)
      have H':=A_ H
      clear H
      go_wp2
      repeat (go_quiet (fail);try go_wp2)
      go_meet
      case rel=>exact ⟨_,(false),(by first|rfl|(simp;done)|(simp [*];done)),H',⟨by first|omega|exact Nat.le_refl _⟩,by repeat (first|exact Drawn0.refl _|apply Drawn0.step)⟩
    case rest =>
     clear HC8
     try clear p2
     try clear c4
     try clear c5
     try clear c5b0
     try clear c5b1
     try clear c6
     try clear c6b0
     try clear c6b1
     try clear p6
     try clear c7
     try clear c7b0
     try clear c7b1
     try clear c9
     try clear c9b0
     try clear c9b1
     obtain ⟨kq,x29_7,rfl,HA,HJ7,⟨mc7,rfl⟩⟩:=hcut
     cases kq with
     | zero=>exact absurd HA.out (by simp [shapesearchref01_order.j0])
     | succ kj7 =>
      have H:=HA.out
      clear HA
      simp only [shapesearchref01_order.j0] at H
      by_cases c10 : x29_7 = true
      ·
       subst c10
       have H1 : (some 0) = some r:=by rw [if_pos rfl] at H;exact H
       clear H
       have H:=H1
       clear H1
       obtain rfl:=Option.some.inj H
       go_wp2
       repeat (go_quiet (fail);try go_wp2)
       go_ret
       exact ⟨by first|rfl|(simp;done)|(simp [*];done),by repeat (first|exact Drawn0.refl _|apply Drawn0.step)⟩
      ·
       replace c10:=Bool.eq_false_iff.mpr c10
       subst c10
       have H1 : (if (Int.tmod a0 a1) = 0 then (some (-1)) else (if (Int.tmod a2 a3) = 0 then (some 1) else ((shapesearchref01_order.f kj7 a3 (Int.tmod a2 a3) a1 (Int.tmod a0 a1)).bind fun t324=>(some t324)))) = some r:=by rw [if_neg (show ¬ (false = true) by decide)] at H;exact H
       clear H
       have H:=H1
       clear H1
       by_cases c11 : (Int.tmod a0 a1) = 0
       ·
        rw [if_pos c11] at H
        have c11b0 : ((Int.tmod a0 a1) == 0) = true:=beq_iff_eq.mpr c11
        have c11b1 : ((Int.tmod a0 a1) != 0) = false:=bne_eq_false_iff_eq.mpr c11
        clear c11
        obtain rfl:=Option.some.inj H
        go_wp2
        repeat (go_quiet (fail);try go_wp2)
        go_ret
        exact ⟨by first|rfl|(simp;done)|(simp [*];done),by repeat (first|exact Drawn0.refl _|apply Drawn0.step)⟩
       ·
        rw [if_neg c11] at H
        have c11b0 : ((Int.tmod a0 a1) == 0) = false:=beq_eq_false_iff_ne.mpr c11
        have c11b1 : ((Int.tmod a0 a1) != 0) = true:=bne_iff_ne.mpr c11
        by_cases c12 : (Int.tmod a2 a3) = 0
        ·
         rw [if_pos c12] at H
         have c12b0 : ((Int.tmod a2 a3) == 0) = true:=beq_iff_eq.mpr c12
         have c12b1 : ((Int.tmod a2 a3) != 0) = false:=bne_eq_false_iff_eq.mpr c12
         clear c12
         obtain rfl:=Option.some.inj H
         go_wp2
         repeat (go_quiet (fail);try go_wp2)
         go_ret
         exact ⟨by first|rfl|(simp;done)|(simp [*];done),by repeat (first|exact Drawn0.refl _|apply Drawn0.step)⟩
        ·
         rw [if_neg c12] at H
         have c12b0 : ((Int.tmod a2 a3) == 0) = false:=beq_eq_false_iff_ne.mpr c12
         have c12b1 : ((Int.tmod a2 a3) != 0) = true:=bne_iff_ne.mpr c12
         replace H:=Option.bind_eq_some_iff.mp H
         obtain ⟨t324,A130,H⟩:=H
         replace H : (some t324) = some r:=H
         have A13:=A_ A130
         clear A130
         obtain rfl:=Option.some.inj H
         go_wp2_with (first|(go_at_call 43;(with_reducible refine (ih kj7 (by have:=HJ7.out;omega) a3 (Int.tmod a2 a3) a1 (Int.tmod a0 a1) t324 _ A13.out).mono ?_);rintro e w' ⟨rfl,⟨nd,rfl⟩⟩;(try first|exact ⟨rfl,_,World.drewN_drewN _ _ _⟩|exact ⟨rfl,_,Eq.trans (World.drewN_drewN _ _ _) (congrArg (World.drewN _) (Nat.add_assoc _ _ _))⟩)))
         repeat (go_quiet (first|(go_at_call 43;(with_reducible refine (ih kj7 (by have:=HJ7.out;omega) a3 (Int.tmod a2 a3) a1 (Int.tmod a0 a1) t324 _ A13.out).mono ?_);rintro e w' ⟨rfl,⟨nd,rfl⟩⟩;(try first|exact ⟨rfl,_,World.drewN_drewN _ _ _⟩|exact ⟨rfl,_,Eq.trans (World.drewN_drewN _ _ _) (congrArg (World.drewN _) (Nat.add_assoc _ _ _))⟩)));try go_wp2_with (first|(go_at_call 43;(with_reducible refine (ih kj7 (by have:=HJ7.out;omega) a3 (Int.tmod a2 a3) a1 (Int.tmod a0 a1) t324 _ A13.out).mono ?_);rintro e w' ⟨rfl,⟨nd,rfl⟩⟩;(try first|exact ⟨rfl,_,World.drewN_drewN _ _ _⟩|exact ⟨rfl,_,Eq.trans (World.drewN_drewN _ _ _) (congrArg (World.drewN _) (Nat.add_assoc _ _ _))⟩))))
         go_ret
         exact ⟨by first|rfl|(simp;done)|(simp [*];done),by repeat (first|exact Drawn0.refl _|apply Drawn0.step)⟩
   ·
    rw [if_neg c7] at H
    have c7b0 : ((wrap64 (Int.tdiv a0 a1)) == (wrap64 (Int.tdiv a2 a3))) = false:=beq_eq_false_iff_ne.mpr c7
    have c7b1 : ((wrap64 (Int.tdiv a0 a1)) != (wrap64 (Int.tdiv a2 a3))) = true:=bne_iff_ne.mpr c7
    by_cases c14 : (wrap64 (Int.tdiv a0 a1)) < (wrap64 (Int.tdiv a2 a3))
    ·
     rw [if_pos c14] at H
     have c14b0 : decide ((wrap64 (Int.tdiv a0 a1)) < (wrap64 (Int.tdiv a2 a3))) = true:=decide_eq_true c14
     clear c14
     obtain rfl:=Option.some.inj H
     go_enter Try.func43,Try.ntmps43
     go_wp2
     repeat (go_quiet (fail);try go_wp2)
     go_ret
     exact ⟨by first|rfl|(simp;done)|(simp [*];done),by repeat (first|exact Drawn0.refl _|apply Drawn0.step)⟩
    ·
     rw [if_neg c14] at H
     have c14b0 : decide ((wrap64 (Int.tdiv a0 a1)) < (wrap64 (Int.tdiv a2 a3))) = false:=decide_eq_false c14
     clear c14
     obtain rfl:=Option.some.inj H
     go_enter Try.func43,Try.ntmps43
     go_wp2
     repeat (go_quiet (fail);try go_wp2)
     go_ret
     exact ⟨by first|rfl|(simp;done)|(simp [*];done),by repeat (first|exact Drawn0.refl _|apply Drawn0.step)⟩

/-! ### shapesearchref01_Cmp: function 17 -/
def shapesearchref01_Cmp.f (k : Nat) (a0_0 : Int) (a0_1 : Int) (a1_0 : Int) (a1_1 : Int) : Option (Int):=(shapesearchref01_Valid.f k a0_0 a0_1).bind fun t327=>(if t327 = true then ((shapesearchref01_Valid.f k a1_0 a1_1).bind fun t328=>(if t328 = true then ((shapesearchref01_order.f k a0_0 a0_1 a1_0 a1_1).bind fun t329=>(some t329)) else (some 0))) else (some 0))
theorem shapesearchref01_Cmp.mono : ∀ a0 a1 a2 a3 k,LeO (shapesearchref01_Cmp.f k a0 a1 a2 a3) (shapesearchref01_Cmp.f (k + 1) a0 a1 a2 a3):=by
 intro a0 a1 a2 a3 k
 unfold shapesearchref01_Cmp.f
 repeat' first
  | (with_reducible exact shapesearchref01_Valid.mono _ _ _)
  | (with_reducible exact shapesearchref01_order.mono _ _ _ _ _)
  | (with_reducible exact LeO.refl _)
  | (with_reducible exact LeO.none _)
  | (with_reducible refine LeO.ite ?_ ?_)
  | (with_reducible refine LeO.bind ?_ (fun _=>?_))
  | exact shapesearchref01_Valid.mono _ _ _
  | exact shapesearchref01_order.mono _ _ _ _ _
  | exact LeO.none _
  | refine LeO.ite ?_ ?_
  | refine LeO.bind ?_ (fun _=>?_)
set_option maxHeartbeats 8000000 in
set_option maxRecDepth 100000 in
theorem shapesearchref01_Cmp.calls (k : Nat) (a0_0 : Int) (a0_1 : Int) (a1_0 : Int) (a1_1 : Int) (r : Int) (w : World) (h : shapesearchref01_Cmp.f k a0_0 a0_1 a1_0 a1_1 = some r) :
 Calls Try.prog 17 #[.agg #[.int .i64 a0_0,.int .i64 a0_1],.agg #[.int .i64 a1_0,.int .i64 a1_1]] w fun e w'=>e = .returned (.int .i64 r)∧Below w.heap.size w w':=by
 have hu36:=Try.underlying36
 have HB:=A_ (Below.refl w.heap.size w)
 have H : ((shapesearchref01_Valid.f k a0_0 a0_1).bind fun t327=>(if t327 = true then ((shapesearchref01_Valid.f k a1_0 a1_1).bind fun t328=>(if t328 = true then ((shapesearchref01_order.f k a0_0 a0_1 a1_0 a1_1).bind fun t329=>(some t329)) else (some 0))) else (some 0))) = some r:=h
 clear h
 replace H:=Option.bind_eq_some_iff.mp H
 obtain ⟨t327,A30,H⟩:=H
 replace H : (if t327 = true then ((shapesearchref01_Valid.f k a1_0 a1_1).bind fun t328=>(if t328 = true then ((shapesearchref01_order.f k a0_0 a0_1 a1_0 a1_1).bind fun t329=>(some t329)) else (some 0))) else (some 0)) = some r:=H
 have A3:=A_ A30
 clear A30
 by_cases c4 : t327 = true
 ·
  subst c4
  have H1 : ((shapesearchref01_Valid.f k a1_0 a1_1).bind fun t328=>(if t328 = true then ((shapesearchref01_order.f k a0_0 a0_1 a1_0 a1_1).bind fun t329=>(some t329)) else (some 0))) = some r:=by rw [if_pos rfl] at H;exact H
  clear H
  have H:=H1
  clear H1
  replace H:=Option.bind_eq_some_iff.mp H
  obtain ⟨t328,A50,H⟩:=H
  replace H : (if t328 = true then ((shapesearchref01_order.f k a0_0 a0_1 a1_0 a1_1).bind fun t329=>(some t329)) else (some 0)) = some r:=H
  have A5:=A_ A50
  clear A50
  by_cases c6 : t328 = true
  ·
   subst c6
   have H1 : ((shapesearchref01_order.f k a0_0 a0_1 a1_0 a1_1).bind fun t329=>(some t329)) = some r:=by rw [if_pos rfl] at H;exact H
   clear H
   have H:=H1
   clear H1
   replace H:=Option.bind_eq_some_iff.mp H
   obtain ⟨t329,A70,H⟩:=H
   replace H : (some t329) = some r:=H
   have A7:=A_ A70
   clear A70
   obtain rfl:=Option.some.inj H
   go_enter Try.func17,Try.ntmps17
   go_wp2_with (first|((with_reducible refine gate_dst (N:=2) rfl ?_);refine box_event ?hg (N:=2) ?hd (cs:=#[.int .i64 a0_0,.int .i64 a0_1]) (t:=36) ?hr ?_;(case hd=>rfl);(case hg=>rfl);(case hr=>first|(go_simp;done)|(go_simp;rfl));intro gb325 hg w8 hbox hb;have n0_:=A_ (below_step (by repeat (first|(with_reducible first|exact HB.out|apply ba|apply bb|apply bc)|exact HB.out)) hb);have n1_:=A_ (hbox);have n2_:=A_ ((by rw [hg];exact (below_size (by repeat (first|(with_reducible first|exact HB.out|apply ba|apply bb|apply bc)|exact HB.out))) : w.heap.size ≤ gb325));have n3_:=A_ ((by rw [hg];exact (below_size (by repeat (first|(with_reducible first|exact HB.out|apply ba|apply bb|apply bc)|exact HB.out))) : w.heap.size ≤ gb325));clear HB;have HB:=n0_;have BK325:=n1_;have GW325:=n2_;have GE325:=n3_;clear n0_ n1_ n2_ n3_;clear hb hbox hg)|((with_reducible refine gate_dst (N:=3) rfl ?_);refine box_event ?hg (N:=3) ?hd (cs:=#[.int .i64 a1_0,.int .i64 a1_1]) (t:=36) ?hr ?_;(case hd=>rfl);(case hg=>rfl);(case hr=>first|(go_simp;done)|(go_simp;rfl));intro gb326 hg w9 hbox hb;have n0_:=A_ (blk_below (g:=gb325) (o:=.cells #[.int .i64 a0_0,.int .i64 a0_1] 36 (0,0)) (by (with_reducible repeat (first|refine blk_drewN ?_ _|refine blk_drew ?_|refine blk_alloc ?_ _));exact BK325.out) hb);have n1_:=A_ (below_step (by repeat (first|(with_reducible first|exact HB.out|apply ba|apply bb|apply bc|refine below_set ?_ GE325.out)|exact HB.out)) hb);have n2_:=A_ (hbox);have n3_:=A_ ((by rw [hg];exact (below_size (by repeat (first|(with_reducible first|exact HB.out|apply ba|apply bb|apply bc|refine below_set ?_ GE325.out)|exact HB.out))) : w.heap.size ≤ gb326));have n4_:=A_ ((by rw [hg];exact (below_size (by repeat (first|(with_reducible first|exact HB.out|apply ba|apply bb|apply bc|refine below_set ?_ GE325.out)|exact HB.out))) : w.heap.size ≤ gb326));have n5_:=A_ ((by rw [hg];exact Nat.ne_of_lt (blk_lt (g:=gb325) (o:=.cells #[.int .i64 a0_0,.int .i64 a0_1] 36 (0,0)) (by (with_reducible repeat (first|refine blk_drewN ?_ _|refine blk_drew ?_|refine blk_alloc ?_ _));exact BK325.out)) : gb325≠gb326));have n6_:=A_ ((by rw [hg];exact Nat.ne_of_gt (blk_lt (g:=gb325) (o:=.cells #[.int .i64 a0_0,.int .i64 a0_1] 36 (0,0)) (by (with_reducible repeat (first|refine blk_drewN ?_ _|refine blk_drew ?_|refine blk_alloc ?_ _));exact BK325.out)) : gb326≠gb325));clear BK325;clear HB;have BK325:=n0_;have HB:=n1_;have BK326:=n2_;have GW326:=n3_;have GE326:=n4_;have NB325_326:=n5_;have NB326_325:=n6_;clear n0_ n1_ n2_ n3_ n4_ n5_ n6_;clear hb hbox hg;have hnb10:=NB325_326.out;have hnc10:=NB326_325.out;have hcz11_0 : w9.cell? ⟨gb325,0,none⟩ = some (.int .i64 a0_0):=(blk_cell BK325.out 0).trans rfl;have hcz11_1 : w9.cell? ⟨gb325,1,none⟩ = some (.int .i64 a0_1):=(blk_cell BK325.out 1).trans rfl;have hfz11_0:=blk_frozen BK325.out 0;have hfz11_1:=blk_frozen BK325.out 1)|((with_reducible refine gate_callee (f:=42) rfl ?_);refine goesL_ (some 6) rfl rfl Try.func42 (by kernel_rfl) rfl #[.agg #[.int .i64 a0_0,.int .i64 a0_1]] rfl (by (try simp only [List.map_toArray,List.map_cons,List.map_nil]);first|done|rfl|(simp only [List.length_drop,List.length_take];rfl)) ?_;(with_reducible refine (shapesearchref01_Valid.calls k a0_0 a0_1 true _ A3.out).mono ?_);rintro e w12 ⟨rfl,hb⟩;refine ⟨_,rfl,?_⟩;have n0_:=A_ (blk_below (g:=gb325) (o:=.cells #[.int .i64 a0_0,.int .i64 a0_1] 36 (0,0)) (by (with_reducible repeat (first|refine blk_drewN ?_ _|refine blk_drew ?_|refine blk_alloc ?_ _));exact BK325.out) hb);have n1_:=A_ (blk_below (g:=gb326) (o:=.cells #[.int .i64 a1_0,.int .i64 a1_1] 36 (0,0)) (by (with_reducible repeat (first|refine blk_drewN ?_ _|refine blk_drew ?_|refine blk_alloc ?_ _));exact BK326.out) hb);have n2_:=A_ (below_step (by repeat (first|(with_reducible first|exact HB.out|apply ba|apply bb|apply bc|refine below_set ?_ GE325.out|refine below_set ?_ GE326.out)|exact HB.out)) hb);clear BK325;clear BK326;clear HB;have BK325:=n0_;have BK326:=n1_;have HB:=n2_;clear n0_ n1_ n2_;(try clear hb);(try clear hb2);(try clear hk);(try clear hi);have hcz13_0 : w12.cell? ⟨gb326,0,none⟩ = some (.int .i64 a1_0):=(blk_cell BK326.out 0).trans rfl;have hcz13_1 : w12.cell? ⟨gb326,1,none⟩ = some (.int .i64 a1_1):=(blk_cell BK326.out 1).trans rfl;have hfz13_0:=blk_frozen BK326.out 0;have hfz13_1:=blk_frozen BK326.out 1)|(go_at_call 42;(with_reducible refine (shapesearchref01_Valid.calls k a1_0 a1_1 true _ A5.out).mono ?_);rintro e w14 ⟨rfl,hb⟩;have n0_:=A_ (blk_below (g:=gb325) (o:=.cells #[.int .i64 a0_0,.int .i64 a0_1] 36 (0,0)) (by (with_reducible repeat (first|refine blk_drewN ?_ _|refine blk_drew ?_|refine blk_alloc ?_ _));exact BK325.out) hb);have n1_:=A_ (blk_below (g:=gb326) (o:=.cells #[.int .i64 a1_0,.int .i64 a1_1] 36 (0,0)) (by (with_reducible repeat (first|refine blk_drewN ?_ _|refine blk_drew ?_|refine blk_alloc ?_ _));exact BK326.out) hb);have n2_:=A_ (below_step (by repeat (first|(with_reducible first|exact HB.out|apply ba|apply bb|apply bc|refine below_set ?_ GE325.out|refine below_set ?_ GE326.out)|exact HB.out)) hb);clear BK325;clear BK326;clear HB;have BK325:=n0_;have BK326:=n1_;have HB:=n2_;clear n0_ n1_ n2_;(try clear hb);(try clear hb2);(try clear hk);(try clear hi);have hcz15_0 : w14.cell? ⟨gb325,0,none⟩ = some (.int .i64 a0_0):=(blk_cell BK325.out 0).trans rfl;have hcz15_1 : w14.cell? ⟨gb325,1,none⟩ = some (.int .i64 a0_1):=(blk_cell BK325.out 1).trans rfl;have hfz15_0:=blk_frozen BK325.out 0;have hfz15_1:=blk_frozen BK325.out 1;have hcz16_0 : w14.cell? ⟨gb326,0,none⟩ = some (.int .i64 a1_0):=(blk_cell BK326.out 0).trans rfl;have hcz16_1 : w14.cell? ⟨gb326,1,none⟩ = some (.int .i64 a1_1):=(blk_cell BK326.out 1).trans rfl;have hfz16_0:=blk_frozen BK326.out 0;have hfz16_1:=blk_frozen BK326.out 1)|((with_reducible refine gate_callee (f:=43) rfl ?_);refine goesL_ (some 21) rfl rfl Try.func43 (by kernel_rfl) rfl #[.int .i64 a0_0,.int .i64 a0_1,.int .i64 a1_0,.int .i64 a1_1] rfl (by (try simp only [List.map_toArray,List.map_cons,List.map_nil]);first|done|rfl|(simp only [List.length_drop,List.length_take];rfl)) ?_;(with_reducible refine (shapesearchref01_order.calls k a0_0 a0_1 a1_0 a1_1 t329 _ A7.out).mono ?_);rintro e w' ⟨rfl,⟨nd,rfl⟩⟩;refine ⟨_,rfl,?_⟩))
   go_ret
   exact ⟨by first|rfl|(simp [errW_none,errW_some] <;> rfl)|(simp [*,errW_none,errW_some] <;> rfl),by repeat (first|(with_reducible first|exact HB.out|apply ba|apply bb|apply bc|refine below_set ?_ GE325.out|refine below_set ?_ GE326.out)|exact HB.out)⟩
  ·
   replace c6:=Bool.eq_false_iff.mpr c6
   subst c6
   have H1 : (some 0) = some r:=by rw [if_neg (show ¬ (false = true) by decide)] at H;exact H
   clear H
   have H:=H1
   clear H1
   obtain rfl:=Option.some.inj H
   go_enter Try.func17,Try.ntmps17
   go_wp2_with (first|((with_reducible refine gate_dst (N:=2) rfl ?_);refine box_event ?hg (N:=2) ?hd (cs:=#[.int .i64 a0_0,.int .i64 a0_1]) (t:=36) ?hr ?_;(case hd=>rfl);(case hg=>rfl);(case hr=>first|(go_simp;done)|(go_simp;rfl));intro gb325 hg w17 hbox hb;have n0_:=A_ (below_step (by repeat (first|(with_reducible first|exact HB.out|apply ba|apply bb|apply bc)|exact HB.out)) hb);have n1_:=A_ (hbox);have n2_:=A_ ((by rw [hg];exact (below_size (by repeat (first|(with_reducible first|exact HB.out|apply ba|apply bb|apply bc)|exact HB.out))) : w.heap.size ≤ gb325));have n3_:=A_ ((by rw [hg];exact (below_size (by repeat (first|(with_reducible first|exact HB.out|apply ba|apply bb|apply bc)|exact HB.out))) : w.heap.size ≤ gb325));clear HB;have HB:=n0_;have BK325:=n1_;have GW325:=n2_;have GE325:=n3_;clear n0_ n1_ n2_ n3_;clear hb hbox hg)|((with_reducible refine gate_dst (N:=3) rfl ?_);refine box_event ?hg (N:=3) ?hd (cs:=#[.int .i64 a1_0,.int .i64 a1_1]) (t:=36) ?hr ?_;(case hd=>rfl);(case hg=>rfl);(case hr=>first|(go_simp;done)|(go_simp;rfl));intro gb326 hg w18 hbox hb;have n0_:=A_ (blk_below (g:=gb325) (o:=.cells #[.int .i64 a0_0,.int .i64 a0_1] 36 (0,0)) (by (with_reducible repeat (first|refine blk_drewN ?_ _|refine blk_drew ?_|refine blk_alloc ?_ _));exact BK325.out) hb);have n1_:=A_ (below_step (by repeat (first|(with_reducible first|exact HB.out|apply ba|apply bb|apply bc|refine below_set ?_ GE325.out)|exact HB.out)) hb);have n2_:=A_ (hbox);have n3_:=A_ ((by rw [hg];exact (below_size (by repeat (first|(with_reducible first|exact HB.out|apply ba|apply bb|apply bc|refine below_set ?_ GE325.out)|exact HB.out))) : w.heap.size ≤ gb326));have n4_:=A_ ((by rw [hg];exact (below_size (by repeat (first|(with_reducible first|exact HB.out|apply ba|apply bb|apply bc|refine below_set ?_ GE325.out)|exact HB.out))) : w.heap.size ≤ gb326));have n5_:=A_ ((by rw [hg];exact Nat.ne_of_lt (blk_lt (g:=gb325) (o:=.cells #[.int .i64 a0_0,.int .i64 a0_1] 36 (0,0)) (by (with_reducible repeat (first|refine blk_drewN ?_ _|refine blk_drew ?_|refine blk_alloc ?_ _));exact BK325.out)) : gb325≠gb326));have n6_:=A_ ((by rw [hg];exact Nat.ne_of_gt (blk_lt (g:=gb325) (o:=.cells #[.int .i64 a0_0,.int .i64 a0_1] 36 (0,0)) (by (with_reducible repeat (first|refine blk_drewN ?_ _|refine blk_drew ?_|refine blk_alloc ?_ _));exact BK325.out)) : gb326≠gb325));clear BK325;clear HB;have BK325:=n0_;have HB:=n1_;have BK326:=n2_;have GW326:=n3_;have GE326:=n4_;have NB325_326:=n5_;have NB326_325:=n6_;clear n0_ n1_ n2_ n3_ n4_ n5_ n6_;clear hb hbox hg;have hnb19:=NB325_326.out;have hnc19:=NB326_325.out;have hcz20_0 : w18.cell? ⟨gb325,0,none⟩ = some (.int .i64 a0_0):=(blk_cell BK325.out 0).trans rfl;have hcz20_1 : w18.cell? ⟨gb325,1,none⟩ = some (.int .i64 a0_1):=(blk_cell BK325.out 1).trans rfl;have hfz20_0:=blk_frozen BK325.out 0;have hfz20_1:=blk_frozen BK325.out 1)|((with_reducible refine gate_callee (f:=42) rfl ?_);refine goesL_ (some 6) rfl rfl Try.func42 (by kernel_rfl) rfl #[.agg #[.int .i64 a0_0,.int .i64 a0_1]] rfl (by (try simp only [List.map_toArray,List.map_cons,List.map_nil]);first|done|rfl|(simp only [List.length_drop,List.length_take];rfl)) ?_;(with_reducible refine (shapesearchref01_Valid.calls k a0_0 a0_1 true _ A3.out).mono ?_);rintro e w21 ⟨rfl,hb⟩;refine ⟨_,rfl,?_⟩;have n0_:=A_ (blk_below (g:=gb325) (o:=.cells #[.int .i64 a0_0,.int .i64 a0_1] 36 (0,0)) (by (with_reducible repeat (first|refine blk_drewN ?_ _|refine blk_drew ?_|refine blk_alloc ?_ _));exact BK325.out) hb);have n1_:=A_ (blk_below (g:=gb326) (o:=.cells #[.int .i64 a1_0,.int .i64 a1_1] 36 (0,0)) (by (with_reducible repeat (first|refine blk_drewN ?_ _|refine blk_drew ?_|refine blk_alloc ?_ _));exact BK326.out) hb);have n2_:=A_ (below_step (by repeat (first|(with_reducible first|exact HB.out|apply ba|apply bb|apply bc|refine below_set ?_ GE325.out|refine below_set ?_ GE326.out)|exact HB.out)) hb);clear BK325;clear BK326;clear HB;have BK325:=n0_;have BK326:=n1_;have HB:=n2_;clear n0_ n1_ n2_;(try clear hb);(try clear hb2);(try clear hk);(try clear hi);have hcz22_0 : w21.cell? ⟨gb326,0,none⟩ = some (.int .i64 a1_0):=(blk_cell BK326.out 0).trans rfl;have hcz22_1 : w21.cell? ⟨gb326,1,none⟩ = some (.int .i64 a1_1):=(blk_cell BK326.out 1).trans rfl;have hfz22_0:=blk_frozen BK326.out 0;have hfz22_1:=blk_frozen BK326.out 1)|(go_at_call 42;(with_reducible refine (shapesearchref01_Valid.calls k a1_0 a1_1 false _ A5.out).mono ?_);rintro e w23 ⟨rfl,hb⟩;have n0_:=A_ (blk_below (g:=gb325) (o:=.cells #[.int .i64 a0_0,.int .i64 a0_1] 36 (0,0)) (by (with_reducible repeat (first|refine blk_drewN ?_ _|refine blk_drew ?_|refine blk_alloc ?_ _));exact BK325.out) hb);have n1_:=A_ (blk_below (g:=gb326) (o:=.cells #[.int .i64 a1_0,.int .i64 a1_1] 36 (0,0)) (by (with_reducible repeat (first|refine blk_drewN ?_ _|refine blk_drew ?_|refine blk_alloc ?_ _));exact BK326.out) hb);have n2_:=A_ (below_step (by repeat (first|(with_reducible first|exact HB.out|apply ba|apply bb|apply bc|refine below_set ?_ GE325.out|refine below_set ?_ GE326.out)|exact HB.out)) hb);clear BK325;clear BK326;clear HB;have BK325:=n0_;have BK326:=n1_;have HB:=n2_;clear n0_ n1_ n2_;(try clear hb);(try clear hb2);(try clear hk);(try clear hi)))
   go_ret
   exact ⟨by first|rfl|(simp [errW_none,errW_some] <;> rfl)|(simp [*,errW_none,errW_some] <;> rfl),by repeat (first|(with_reducible first|exact HB.out|apply ba|apply bb|apply bc|refine below_set ?_ GE325.out|refine below_set ?_ GE326.out)|exact HB.out)⟩
 ·
  replace c4:=Bool.eq_false_iff.mpr c4
  subst c4
  have H1 : (some 0) = some r:=by rw [if_neg (show ¬ (false = true) by decide)] at H;exact H
  clear H
  have H:=H1
  clear H1
  obtain rfl:=Option.some.inj H
  go_enter Try.func17,Try.ntmps17
  go_wp2_with (first|((with_reducible refine gate_dst (N:=2) rfl ?_);refine box_event ?hg (N:=2) ?hd (cs:=#[.int .i64 a0_0,.int .i64 a0_1]) (t:=36) ?hr ?_;(case hd=>rfl);(case hg=>rfl);(case hr=>first|(go_simp;done)|(go_simp;rfl));intro gb325 hg w24 hbox hb;have n0_:=A_ (below_step (by repeat (first|(with_reducible first|exact HB.out|apply ba|apply bb|apply bc)|exact HB.out)) hb);have n1_:=A_ (hbox);have n2_:=A_ ((by rw [hg];exact (below_size (by repeat (first|(with_reducible first|exact HB.out|apply ba|apply bb|apply bc)|exact HB.out))) : w.heap.size ≤ gb325));have n3_:=A_ ((by rw [hg];exact (below_size (by repeat (first|(with_reducible first|exact HB.out|apply ba|apply bb|apply bc)|exact HB.out))) : w.heap.size ≤ gb325));clear HB;have HB:=n0_;have BK325:=n1_;have GW325:=n2_;have GE325:=n3_;clear n0_ n1_ n2_ n3_;clear hb hbox hg)|((with_reducible refine gate_dst (N:=3) rfl ?_);refine box_event ?hg (N:=3) ?hd (cs:=#[.int .i64 a1_0,.int .i64 a1_1]) (t:=36) ?hr ?_;(case hd=>rfl);(case hg=>rfl);(case hr=>first|(go_simp;done)|(go_simp;rfl));intro gb326 hg w25 hbox hb;have n0_:=A_ (blk_below (g:=gb325) (o:=.cells #[.int .i64 a0_0,.int .i64 a0_1] 36 (0,0)) (by (with_reducible repeat (first|refine blk_drewN ?_ _|refine blk_drew ?_|refine blk_alloc ?_ _));exact BK325.out) hb);have n1_:=A_ (below_step (by repeat (first|(with_reducible first|exact HB.out|apply ba|apply bb|apply bc|refine below_set ?_ GE325.out)|exact HB.out)) hb);have n2_:=A_ (hbox);have n3_:=A_ ((by rw [hg];exact (below_size (by repeat (first|(with_reducible first|exact HB.out|apply ba|apply bb|apply bc|refine below_set ?_ GE325.out)|exact HB.out))) : w.heap.size ≤ gb326));have n4_:=A_ ((by rw [hg];exact (below_size (by repeat (first|(with_reducible first|exact HB.out|apply ba|apply bb|apply bc|refine below_set ?_ GE325.out)|exact HB.out))) : w.heap.size ≤ gb326));have n5_:=A_ ((by rw [hg];exact Nat.ne_of_lt (blk_lt (g:=gb325) (o:=.cells #[.int .i64 a0_0,.int .i64 a0_1] 36 (0,0)) (by (with_reducible repeat (first|refine blk_drewN ?_ _|refine blk_drew ?_|refine blk_alloc ?_ _));exact BK325.out)) : gb325≠gb326));have n6_:=A_ ((by rw [hg];exact Nat.ne_of_gt (blk_lt (g:=gb325) (o:=.cells #[.int .i64 a0_0,.int .i64 a0_1] 36 (0,0)) (by (with_reducible repeat (first|refine blk_drewN ?_ _|refine blk_drew ?_|refine blk_alloc ?_ _));exact BK325.out)) : gb326≠gb325));clear BK325;clear HB;have BK325:=n0_;have HB:=n1_;have BK326:=n2_;have GW326:=n3_;have GE326:=n4_;have NB325_326:=n5_;have NB326_325:=n6_;clear n0_ n1_ n2_ n3_ n4_ n5_ n6_;clear hb hbox hg;have hnb26:=NB325_326.out;have hnc26:=NB326_325.out;have hcz27_0 : w25.cell? ⟨gb325,0,none⟩ = some (.int .i64 a0_0):=(blk_cell BK325.out 0).trans rfl;have hcz27_1 : w25.cell? ⟨gb325,1,none⟩ = some (.int .i64 a0_1):=(blk_cell BK325.out 1).trans rfl;have hfz27_0:=blk_frozen BK325.out 0;have hfz27_1:=blk_frozen BK325.out 1)|((with_reducible refine gate_callee (f:=42) rfl ?_);refine goesL_ (some 6) rfl rfl Try.func42 (by kernel_rfl) rfl #[.agg #[.int .i64 a0_0,.int .i64 a0_1]] rfl (by (try simp only [List.map_toArray,List.map_cons,List.map_nil]);first|done|rfl|(simp only [List.length_drop,List.length_take];rfl)) ?_;(with_reducible refine (shapesearchref01_Valid.calls k a0_0 a0_1 false _ A3.out).mono ?_);rintro e w28 ⟨rfl,hb⟩;refine ⟨_,rfl,?_⟩;have n0_:=A_ (blk_below (g:=gb325) (o:=.cells #[.int .i64 a0_0,.int .i64 a0_1] 36 (0,0)) (by (with_reducible repeat (first|refine blk_drewN ?_ _|refine blk_drew ?_|refine blk_alloc ?_ _));exact BK325.out) hb);have n1_:=A_ (blk_below (g:=gb326) (o:=.cells #[.int .i64 a1_0,.int .i64 a1_1] 36 (0,0)) (by (with_reducible repeat (first|refine blk_drewN ?_ _|refine blk_drew ?_|refine blk_alloc ?_ _));exact BK326.out) hb);have n2_:=A_ (below_step (by repeat (first|(with_reducible first|exact HB.out|apply ba|apply bb|apply bc|refine below_set ?_ GE325.out|refine below_set ?_ GE326.out)|exact HB.out)) hb);clear BK325;clear BK326;clear HB;have BK325:=n0_;have BK326:=n1_;have HB:=n2_;clear n0_ n1_ n2_;(try clear hb);(try clear hb2);(try clear hk);(try clear hi)))
  go_ret
  exact ⟨by first|rfl|(simp [errW_none,errW_some] <;> rfl)|(simp [*,errW_none,errW_some] <;> rfl),by repeat (first|(with_reducible first|exact HB.out|apply ba|apply bb|apply bc|refine below_set ?_ GE325.out|refine below_set ?_ GE326.out)|exact HB.out)⟩

end Go.Proofs.Ytodipcfbgnljeaa.PChannelsMore
