/- This file proves, function by function, what the Go functions that one law uses compute; most of it was printed by a program (wip/tools of this session, over the kit's print). -/
import Derived.Test.YtodipcfbgnljeaaPChannelsGreatestx0
import Derived.Test.YtodipcfbgnljeaaPChannelsGreatestx7
import Derived.Test.YtodipcfbgnljeaaPChannelsGreatestx8
namespace Go.Proofs.Ytodipcfbgnljeaa.PChannelsGreatest
open Go.RowKit Go.Proofs.YtodipcfbgnljeaaW.PrintWords Go.Proofs.YtodipcfbgnljeaaW.PrintLast Go.Proofs.YtodipcfbgnljeaaW.PrintMore
attribute [local go_sem] max2_int min2_int max_two min_two max_three min_three max_four min_four   -- for this text's walks alone
set_option linter.unusedVariables false
set_option linter.unusedSimpArgs false

/-! ### shapesearchref13_Between: function 49 -/
mutual
def shapesearchref13_Between.j0 : Nat → Int → Int → Int → Bool → Int → Int → Option (Int × Int)
 | 0,_,_,_,_,_,_=>none
 | k + 1,x0,x1,x2,x9,x318000,x318001=>if x9 = true then (some (0,x318001)) else (if x1 = 0 then (shapesearchref13_Between.j1 k x0 x1 x2 false x318000 x318001) else (if x2 = 0 then (shapesearchref13_Between.j1 k x0 x1 x2 false x318000 x318001) else (shapesearchref13_Between.j1 k x0 x1 x2 (decide (x0 ≥ 0)) x318000 x318001)))
def shapesearchref13_Between.j1 : Nat → Int → Int → Int → Bool → Int → Int → Option (Int × Int)
 | 0,_,_,_,_,_,_=>none
 | k + 1,x0,x1,x2,x17,x318000,x318001=>if x17 = true then ((shapesearchref01_Make.f k (wrap64 ((wrap64 (x1 * x2)) - (wrap64 (x0 * x0)))) (wrap64 (x1 * x2))).bind fun bt318=>(some (bt318.1,bt318.2.1))) else (if x1 = 0 then (some (x318000,x318001)) else (if x2 = 0 then (some (x318000,x318001)) else ((shapesearchref01_Make.f k (wrap64 ((wrap64 (x1 * x2)) + (wrap64 (x0 * x0)))) (wrap64 (x1 * x2))).bind fun bt321=>(some (bt321.1,bt321.2.1)))))
end
def shapesearchref13_Between.f (k : Nat) (a0 : Int) (a1 : Int) (a2 : Int) : Option (Int × Int):=if a1 = 0 then (shapesearchref13_Between.j0 k a0 a1 a2 (a2 == 0) 1 1) else (shapesearchref13_Between.j0 k a0 a1 a2 false 1 1)
theorem shapesearchref13_Between.mono_l : ∀ k,(∀ y0 y1 y2 y3 y4 y5,LeO (shapesearchref13_Between.j0 k y0 y1 y2 y3 y4 y5) (shapesearchref13_Between.j0 (k + 1) y0 y1 y2 y3 y4 y5))∧(∀ y0 y1 y2 y3 y4 y5,LeO (shapesearchref13_Between.j1 k y0 y1 y2 y3 y4 y5) (shapesearchref13_Between.j1 (k + 1) y0 y1 y2 y3 y4 y5))
 | 0=>⟨fun _ _ _ _ _ _ r h=>by simp [shapesearchref13_Between.j0] at h,fun _ _ _ _ _ _ r h=>by simp [shapesearchref13_Between.j1] at h⟩
 | k + 1=>by
  obtain ⟨ih0,ih1⟩:=shapesearchref13_Between.mono_l k
  refine ⟨?_,?_⟩
  ·
   intro y0 y1 y2 y3 y4 y5
   unfold shapesearchref13_Between.j0
   repeat' first
   | (with_reducible exact ih0 _ _ _ _ _ _)
   | (with_reducible exact ih1 _ _ _ _ _ _)
   | (with_reducible exact shapesearchref01_Make.mono _ _ _)
   | (with_reducible exact LeO.refl _)
   | (with_reducible exact LeO.none _)
   | (with_reducible refine LeO.ite ?_ ?_)
   | (with_reducible refine LeO.bind ?_ (fun _=>?_))
   | exact ih0 _ _ _ _ _ _
   | exact ih1 _ _ _ _ _ _
   | exact shapesearchref01_Make.mono _ _ _
   | exact LeO.none _
   | refine LeO.ite ?_ ?_
   | refine LeO.bind ?_ (fun _=>?_)
  ·
   intro y0 y1 y2 y3 y4 y5
   unfold shapesearchref13_Between.j1
   repeat' first
   | (with_reducible exact ih0 _ _ _ _ _ _)
   | (with_reducible exact ih1 _ _ _ _ _ _)
   | (with_reducible exact shapesearchref01_Make.mono _ _ _)
   | (with_reducible exact LeO.refl _)
   | (with_reducible exact LeO.none _)
   | (with_reducible refine LeO.ite ?_ ?_)
   | (with_reducible refine LeO.bind ?_ (fun _=>?_))
   | exact ih0 _ _ _ _ _ _
   | exact ih1 _ _ _ _ _ _
   | exact shapesearchref01_Make.mono _ _ _
   | exact LeO.none _
   | refine LeO.ite ?_ ?_
   | refine LeO.bind ?_ (fun _=>?_)
theorem shapesearchref13_Between.mono : ∀ a0 a1 a2 k,LeO (shapesearchref13_Between.f k a0 a1 a2) (shapesearchref13_Between.f (k + 1) a0 a1 a2):=by
 intro a0 a1 a2 k
 obtain ⟨ih0,ih1⟩:=shapesearchref13_Between.mono_l k
 unfold shapesearchref13_Between.f
 repeat' first
   | (with_reducible exact ih0 _ _ _ _ _ _)
   | (with_reducible exact ih1 _ _ _ _ _ _)
   | (with_reducible exact shapesearchref01_Make.mono _ _ _)
   | (with_reducible exact LeO.refl _)
   | (with_reducible exact LeO.none _)
   | (with_reducible refine LeO.ite ?_ ?_)
   | (with_reducible refine LeO.bind ?_ (fun _=>?_))
   | exact ih0 _ _ _ _ _ _
   | exact ih1 _ _ _ _ _ _
   | exact shapesearchref01_Make.mono _ _ _
   | exact LeO.none _
   | refine LeO.ite ?_ ?_
   | refine LeO.bind ?_ (fun _=>?_)
set_option maxHeartbeats 8000000 in
set_option maxRecDepth 100000 in
theorem shapesearchref13_Between.calls (k : Nat) (a0 : Int) (a1 : Int) (a2 : Int) (r1 : Int) (r2 : Int) (w : World) (h : shapesearchref13_Between.f k a0 a1 a2 = some (r1,r2)) :
  Calls Try.prog 49 #[.int .i64 a0,.int .i64 a1,.int .i64 a2] w fun e w'=>e = .returned (.agg #[.int .i64 r1,.int .i64 r2])∧Below w.heap.size w w':=by
 have hu36:=Try.underlying36
 have HB:=A_ (Below.refl w.heap.size w)
 have H : (if a1 = 0 then (shapesearchref13_Between.j0 k a0 a1 a2 (a2 == 0) 1 1) else (shapesearchref13_Between.j0 k a0 a1 a2 false 1 1)) = some (r1,r2):=h
 clear h
 have HC4:=A_ H
 clear H
 go_enter Try.func49,Try.ntmps49
 go_upto_region 2 with (first|((with_reducible refine gate_dst (N:=6) rfl ?_);refine box_event ?hg (N:=6) ?hd (cs:=#[.int .i64 0,.int .i64 0]) (t:=36) ?hr ?_;(case hd=>rfl);(case hg=>rfl);(case hr=>first|(go_simp;done)|(go_simp;rfl));intro gb316 hg w5 hbox hb;have n0_:=A_ (below_step (by repeat (first|(with_reducible first|exact HB.out|apply ba|apply bb|apply bc)|exact HB.out)) hb);have n1_:=A_ (hbox);have n2_:=A_ ((by rw [hg];exact (below_size (by repeat (first|(with_reducible first|exact HB.out|apply ba|apply bb|apply bc)|exact HB.out))) : w.heap.size ≤ gb316));have n3_:=A_ ((by rw [hg];exact (below_size (by repeat (first|(with_reducible first|exact HB.out|apply ba|apply bb|apply bc)|exact HB.out))) : w.heap.size ≤ gb316));clear HB;have HB:=n0_;have BK316:=n1_;have GW316:=n2_;have GE316:=n3_;clear n0_ n1_ n2_ n3_;clear hb hbox hg)|((with_reducible refine gate_dst (N:=7) rfl ?_);refine box_event ?hg (N:=7) ?hd (cs:=#[.int .i64 0,.int .i64 0]) (t:=36) ?hr ?_;(case hd=>rfl);(case hg=>rfl);(case hr=>first|(go_simp;done)|(go_simp;rfl));intro gb317 hg w6 hbox hb;have n0_:=A_ (blk_below (g:=gb316) (o:=.cells #[.int .i64 0,.int .i64 0] 36 (0,0)) (by (with_reducible repeat (first|refine blk_drewN ?_ _|refine blk_drew ?_|refine blk_alloc ?_ _));exact BK316.out) hb);have n1_:=A_ (below_step (by repeat (first|(with_reducible first|exact HB.out|apply ba|apply bb|apply bc|refine below_set ?_ GE316.out)|exact HB.out)) hb);have n2_:=A_ (hbox);have n3_:=A_ ((by rw [hg];exact (below_size (by repeat (first|(with_reducible first|exact HB.out|apply ba|apply bb|apply bc|refine below_set ?_ GE316.out)|exact HB.out))) : w.heap.size ≤ gb317));have n4_:=A_ ((by rw [hg];exact (below_size (by repeat (first|(with_reducible first|exact HB.out|apply ba|apply bb|apply bc|refine below_set ?_ GE316.out)|exact HB.out))) : w.heap.size ≤ gb317));have n5_:=A_ ((by rw [hg];exact Nat.ne_of_lt (blk_lt (g:=gb316) (o:=.cells #[.int .i64 0,.int .i64 0] 36 (0,0)) (by (with_reducible repeat (first|refine blk_drewN ?_ _|refine blk_drew ?_|refine blk_alloc ?_ _));exact BK316.out)) : gb316≠gb317));have n6_:=A_ ((by rw [hg];exact Nat.ne_of_gt (blk_lt (g:=gb316) (o:=.cells #[.int .i64 0,.int .i64 0] 36 (0,0)) (by (with_reducible repeat (first|refine blk_drewN ?_ _|refine blk_drew ?_|refine blk_alloc ?_ _));exact BK316.out)) : gb317≠gb316));clear BK316;clear HB;have BK316:=n0_;have HB:=n1_;have BK317:=n2_;have GW317:=n3_;have GE317:=n4_;have NB316_317:=n5_;have NB317_316:=n6_;clear n0_ n1_ n2_ n3_ n4_ n5_ n6_;clear hb hbox hg;have hnb7:=NB317_316.out;have hnc7:=NB316_317.out;have hcz8_0 : w6.cell? ⟨gb317,0,none⟩ = some (.int .i64 0):=(blk_cell BK317.out 0).trans rfl;have hcz8_1 : w6.cell? ⟨gb317,1,none⟩ = some (.int .i64 0):=(blk_cell BK317.out 1).trans rfl;have hfz8_0:=blk_frozen BK317.out 0;have hfz8_1:=blk_frozen BK317.out 1))
 (try simp only [Act.put,List.setIfInBounds_toArray,List.set_cons_zero,List.set_cons_succ])
 go_cut [9] (fun v9 wc=>∃ (kq : Nat) (x9_3 : Bool),v9 = .bool x9_3∧Aside0 (shapesearchref13_Between.j0 kq a0 a1 a2 x9_3 1 1 = some (r1,r2))∧Aside0 (kq ≤ k)∧Aside0 (wc.heap[gb316]? = some (.cells #[.int .i64 0,.int .i64 0] 36 (0,0)))∧Aside0 (wc.heap[gb317]? = some (.cells #[.int .i64 1,.int .i64 1] 36 (0,0)))∧Aside0 (Below w.heap.size w wc))
 case first =>
  have H:=HC4.out
  clear HC4
  by_cases c9 : a1 = 0
  ·
   rw [if_pos c9] at H
   have c9b0 : (a1 == 0) = true:=beq_iff_eq.mpr c9
   have c9b1 : (a1 != 0) = false:=bne_eq_false_iff_eq.mpr c9
   clear c9
   (first|rw [c9b0]|(simp only [i64_w,i32_w];rw [c9b0])|skip)
   have H':=A_ H
   clear H
   go_wp2
   go_meet
   case rel=>exact ⟨_,((a2 == 0)),(by first|rfl|(simp;done)|(simp [*];done)),H',⟨by first|omega|exact Nat.le_refl _⟩,⟨by (with_reducible repeat (first|refine blk_drewN ?_ _|refine blk_drew ?_|refine blk_alloc ?_ _));refine blk_far ?_ NB316_317.out _;(with_reducible repeat (first|refine blk_drewN ?_ _|refine blk_drew ?_|refine blk_alloc ?_ _));refine blk_far ?_ NB316_317.out _;(with_reducible repeat (first|refine blk_drewN ?_ _|refine blk_drew ?_|refine blk_alloc ?_ _));exact BK316.out⟩,⟨by (with_reducible repeat (first|refine blk_drewN ?_ _|refine blk_drew ?_|refine blk_alloc ?_ _));refine blk_put (cs:=#[.int .i64 1,.int .i64 0]) ?_ 1 _ rfl;(with_reducible repeat (first|refine blk_drewN ?_ _|refine blk_drew ?_|refine blk_alloc ?_ _));refine blk_put (cs:=#[.int .i64 0,.int .i64 0]) ?_ 0 _ rfl;(with_reducible repeat (first|refine blk_drewN ?_ _|refine blk_drew ?_|refine blk_alloc ?_ _));exact BK317.out⟩,⟨by repeat (first|(with_reducible first|exact HB.out|apply ba|apply bb|apply bc|refine below_set ?_ GE316.out|refine below_set ?_ GE317.out)|exact HB.out)⟩⟩
  ·
   rw [if_neg c9] at H
   have c9b0 : (a1 == 0) = false:=beq_eq_false_iff_ne.mpr c9
   have c9b1 : (a1 != 0) = true:=bne_iff_ne.mpr c9
   (first|rw [c9b0]|(simp only [i64_w,i32_w];rw [c9b0])|skip)
   have H':=A_ H
   clear H
   go_wp2
   go_meet
   case rel=>exact ⟨_,(false),(by first|rfl|(simp;done)|(simp [*];done)),H',⟨by first|omega|exact Nat.le_refl _⟩,⟨by (with_reducible repeat (first|refine blk_drewN ?_ _|refine blk_drew ?_|refine blk_alloc ?_ _));refine blk_far ?_ NB316_317.out _;(with_reducible repeat (first|refine blk_drewN ?_ _|refine blk_drew ?_|refine blk_alloc ?_ _));refine blk_far ?_ NB316_317.out _;(with_reducible repeat (first|refine blk_drewN ?_ _|refine blk_drew ?_|refine blk_alloc ?_ _));exact BK316.out⟩,⟨by (with_reducible repeat (first|refine blk_drewN ?_ _|refine blk_drew ?_|refine blk_alloc ?_ _));refine blk_put (cs:=#[.int .i64 1,.int .i64 0]) ?_ 1 _ rfl;(with_reducible repeat (first|refine blk_drewN ?_ _|refine blk_drew ?_|refine blk_alloc ?_ _));refine blk_put (cs:=#[.int .i64 0,.int .i64 0]) ?_ 0 _ rfl;(with_reducible repeat (first|refine blk_drewN ?_ _|refine blk_drew ?_|refine blk_alloc ?_ _));exact BK317.out⟩,⟨by repeat (first|(with_reducible first|exact HB.out|apply ba|apply bb|apply bc|refine below_set ?_ GE316.out|refine below_set ?_ GE317.out)|exact HB.out)⟩⟩
 case rest =>
  clear HC4
  try clear p2
  try clear c4
  try clear c7
  try clear c9
  try clear c9b0
  try clear c9b1
  try clear hcz8_0
  try clear hcz8_1
  try clear hfz8_0
  try clear hfz8_1
  obtain ⟨kq,x9_3,rfl,HA,HJ3,BK316,BK317,HB⟩:=hcut
  cases kq with
  | zero=>exact absurd HA.out (by simp [shapesearchref13_Between.j0])
  | succ kj3 =>
   have H:=HA.out
   clear HA
   simp only [shapesearchref13_Between.j0] at H
   by_cases c10 : x9_3 = true
   ·
    subst c10
    have H1 : (some (0,1)) = some (r1,r2):=by rw [if_pos rfl] at H;exact H
    clear H
    have H:=H1
    clear H1
    simp only [Option.some.injEq,Prod.mk.injEq] at H
    obtain ⟨rfl,rfl⟩:=H
    have hnb11:=NB317_316.out
    have hnc11:=NB316_317.out
    have hcz12_0 : wc.cell? ⟨gb317,0,none⟩ = some (.int .i64 1):=(blk_cell BK317.out 0).trans rfl
    have hcz12_1 : wc.cell? ⟨gb317,1,none⟩ = some (.int .i64 1):=(blk_cell BK317.out 1).trans rfl
    have hfz12_0:=blk_frozen BK317.out 0
    have hfz12_1:=blk_frozen BK317.out 1
    have hcz13_0 : wc.cell? ⟨gb316,0,none⟩ = some (.int .i64 0):=(blk_cell BK316.out 0).trans rfl
    have hcz13_1 : wc.cell? ⟨gb316,1,none⟩ = some (.int .i64 0):=(blk_cell BK316.out 1).trans rfl
    have hfz13_0:=blk_frozen BK316.out 0
    have hfz13_1:=blk_frozen BK316.out 1
    go_wp2
    refine bodyPost_ret (results_cell_row rfl _ _ gb316 36 #[.int .i64 0,.int .i64 1] (0,0) _ rfl (by (with_reducible repeat (first|refine blk_drewN ?_ _|refine blk_drew ?_|refine blk_alloc ?_ _));refine blk_put (cs:=#[.int .i64 0,.int .i64 0]) ?_ 1 _ rfl;(with_reducible repeat (first|refine blk_drewN ?_ _|refine blk_drew ?_|refine blk_alloc ?_ _));refine blk_put (cs:=#[.int .i64 0,.int .i64 0]) ?_ 0 _ rfl;(with_reducible repeat (first|refine blk_drewN ?_ _|refine blk_drew ?_|refine blk_alloc ?_ _));refine blk_far ?_ NB316_317.out _;(with_reducible repeat (first|refine blk_drewN ?_ _|refine blk_drew ?_|refine blk_alloc ?_ _));exact BK316.out) Try.underlying36 rfl (by kernel_rfl)) rfl ?_
    exact ⟨by first|rfl|(simp [errW_none,errW_some] <;> rfl)|(simp [*,errW_none,errW_some] <;> rfl),by repeat (first|(with_reducible first|exact HB.out|apply ba|apply bb|apply bc|refine below_set ?_ GE316.out|refine below_set ?_ GE317.out)|exact HB.out)⟩
   ·
    replace c10:=Bool.eq_false_iff.mpr c10
    subst c10
    have H1 : (if a1 = 0 then (shapesearchref13_Between.j1 kj3 a0 a1 a2 false 1 1) else (if a2 = 0 then (shapesearchref13_Between.j1 kj3 a0 a1 a2 false 1 1) else (shapesearchref13_Between.j1 kj3 a0 a1 a2 (decide (a0 ≥ 0)) 1 1))) = some (r1,r2):=by rw [if_neg (show ¬ (false = true) by decide)] at H;exact H
    clear H
    have H:=H1
    clear H1
    have HC14:=A_ H
    clear H
    go_upto_region 4 with (fail)
    go_cut [17] (fun v17 wc=>∃ (kq : Nat) (x17_13 : Bool),v17 = .bool x17_13∧Aside0 (shapesearchref13_Between.j1 kq a0 a1 a2 x17_13 1 1 = some (r1,r2))∧Aside0 (kq ≤ kj3)∧Aside0 (wc.heap[gb316]? = some (.cells #[.int .i64 0,.int .i64 0] 36 (0,0)))∧Aside0 (wc.heap[gb317]? = some (.cells #[.int .i64 1,.int .i64 1] 36 (0,0)))∧Aside0 (Below w.heap.size w wc))
    case first =>
     have H:=HC14.out
     clear HC14
     by_cases c15 : a1 = 0
     ·
      rw [if_pos c15] at H
      have c15b0 : (a1 == 0) = true:=beq_iff_eq.mpr c15
      have c15b1 : (a1 != 0) = false:=bne_eq_false_iff_eq.mpr c15
      clear c15
      (first|rw [c15b0]|(simp only [i64_w,i32_w];rw [c15b0])|skip)
      have H':=A_ H
      clear H
      go_wp2
      go_meet
      case rel=>exact ⟨_,(false),(by first|rfl|(simp;done)|(simp [*];done)),H',⟨by have:=HJ3.out;first|omega|exact Nat.le_refl _⟩,⟨by (with_reducible repeat (first|refine blk_drewN ?_ _|refine blk_drew ?_|refine blk_alloc ?_ _));exact BK316.out⟩,⟨by (with_reducible repeat (first|refine blk_drewN ?_ _|refine blk_drew ?_|refine blk_alloc ?_ _));exact BK317.out⟩,⟨by repeat (first|(with_reducible first|exact HB.out|apply ba|apply bb|apply bc|refine below_set ?_ GE316.out|refine below_set ?_ GE317.out)|exact HB.out)⟩⟩
     ·
      rw [if_neg c15] at H
      have c15b0 : (a1 == 0) = false:=beq_eq_false_iff_ne.mpr c15
      have c15b1 : (a1 != 0) = true:=bne_iff_ne.mpr c15
      (first|rw [c15b0]|(simp only [i64_w,i32_w];rw [c15b0])|skip)
      by_cases c16 : a2 = 0
      ·
       rw [if_pos c16] at H
       have c16b0 : (a2 == 0) = true:=beq_iff_eq.mpr c16
       have c16b1 : (a2 != 0) = false:=bne_eq_false_iff_eq.mpr c16
       clear c16
       have H':=A_ H
       clear H
       go_wp2
       go_meet
       case rel=>exact ⟨_,(false),(by first|rfl|(simp;done)|(simp [*];done)),H',⟨by have:=HJ3.out;first|omega|exact Nat.le_refl _⟩,⟨by (with_reducible repeat (first|refine blk_drewN ?_ _|refine blk_drew ?_|refine blk_alloc ?_ _));exact BK316.out⟩,⟨by (with_reducible repeat (first|refine blk_drewN ?_ _|refine blk_drew ?_|refine blk_alloc ?_ _));exact BK317.out⟩,⟨by repeat (first|(with_reducible first|exact HB.out|apply ba|apply bb|apply bc|refine below_set ?_ GE316.out|refine below_set ?_ GE317.out)|exact HB.out)⟩⟩
      ·
       rw [if_neg c16] at H
       have c16b0 : (a2 == 0) = false:=beq_eq_false_iff_ne.mpr c16
       have c16b1 : (a2 != 0) = true:=bne_iff_ne.mpr c16
       have H':=A_ H
       clear H
       go_wp2
       go_meet
       case rel=>exact ⟨_,(decide (a0 ≥ 0)),(by first|rfl|(simp;done)|(simp [*];done)),H',⟨by have:=HJ3.out;first|omega|exact Nat.le_refl _⟩,⟨by (with_reducible repeat (first|refine blk_drewN ?_ _|refine blk_drew ?_|refine blk_alloc ?_ _));exact BK316.out⟩,⟨by (with_reducible repeat (first|refine blk_drewN ?_ _|refine blk_drew ?_|refine blk_alloc ?_ _));exact BK317.out⟩,⟨by repeat (first|(with_reducible first|exact HB.out|apply ba|apply bb|apply bc|refine below_set ?_ GE316.out|refine below_set ?_ GE317.out)|exact HB.out)⟩⟩
    case rest =>
     clear HC14
     try clear c1
     try clear p2
     try clear c4
     try clear c7
     try clear c9
     try clear c9b0
     try clear c9b1
     try clear c10
     try clear c11
     try clear c15
     try clear c15b0
     try clear c15b1
     try clear c16
     try clear c16b0
     try clear c16b1
     try clear hcz12_0
     try clear hcz12_1
     try clear hcz13_0
     try clear hcz13_1
     try clear hcz8_0
     try clear hcz8_1
     try clear hfz12_0
     try clear hfz12_1
     try clear hfz13_0
     try clear hfz13_1
     try clear hfz8_0
     try clear hfz8_1
     try clear p2
     obtain ⟨kq,x17_13,rfl,HA,HJ13,BK316,BK317,HB⟩:=hcut
     cases kq with
     | zero=>exact absurd HA.out (by simp [shapesearchref13_Between.j1])
     | succ kj13 =>
      have H:=HA.out
      clear HA
      simp only [shapesearchref13_Between.j1] at H
      by_cases c17 : x17_13 = true
      ·
       subst c17
       have H1 : ((shapesearchref01_Make.f kj13 (wrap64 ((wrap64 (a1 * a2)) - (wrap64 (a0 * a0)))) (wrap64 (a1 * a2))).bind fun bt318=>(some (bt318.1,bt318.2.1))) = some (r1,r2):=by rw [if_pos rfl] at H;exact H
       clear H
       have H:=H1
       clear H1
       replace H:=Option.bind_eq_some_iff.mp H
       obtain ⟨⟨t318,t319,t320⟩,A180,H⟩:=H
       replace H : (some (t318,t319)) = some (r1,r2):=H
       have A18:=A_ A180
       clear A180
       simp only [Option.some.injEq,Prod.mk.injEq] at H
       obtain ⟨rfl,rfl⟩:=H
       go_wp2_with (first|((with_reducible refine gate_callee (f:=65) rfl ?_);refine goesL_ (some 39) rfl rfl Try.func65 (by kernel_rfl) rfl #[.int .i64 (wrap64 ((wrap64 (a1 * a2)) - (wrap64 (a0 * a0)))),.int .i64 (wrap64 (a1 * a2))] rfl (by (try simp only [List.map_toArray,List.map_cons,List.map_nil]);first|done|rfl|(simp only [List.length_drop,List.length_take];rfl)) ?_;(with_reducible refine (shapesearchref01_Make.calls kj13 (wrap64 ((wrap64 (a1 * a2)) - (wrap64 (a0 * a0)))) (wrap64 (a1 * a2)) t318 t319 t320 _ A18.out).mono ?_);rintro e w19 ⟨rfl,hb⟩;refine ⟨_,rfl,?_⟩;have n0_:=A_ (blk_below (g:=gb316) (o:=.cells #[.int .i64 0,.int .i64 0] 36 (0,0)) (by (with_reducible repeat (first|refine blk_drewN ?_ _|refine blk_drew ?_|refine blk_alloc ?_ _));exact BK316.out) hb);have n1_:=A_ (blk_below (g:=gb317) (o:=.cells #[.int .i64 1,.int .i64 1] 36 (0,0)) (by (with_reducible repeat (first|refine blk_drewN ?_ _|refine blk_drew ?_|refine blk_alloc ?_ _));exact BK317.out) hb);have n2_:=A_ (below_step (by repeat (first|(with_reducible first|exact HB.out|apply ba|apply bb|apply bc|refine below_set ?_ GE316.out|refine below_set ?_ GE317.out)|exact HB.out)) hb);clear BK316;clear BK317;clear HB;have BK316:=n0_;have BK317:=n1_;have HB:=n2_;clear n0_ n1_ n2_;(try clear hb);(try clear hb2);(try clear hk);(try clear hi);have hnb20:=NB317_316.out;have hnc20:=NB316_317.out;have hcz21_0 : w19.cell? ⟨gb317,0,none⟩ = some (.int .i64 1):=(blk_cell BK317.out 0).trans rfl;have hcz21_1 : w19.cell? ⟨gb317,1,none⟩ = some (.int .i64 1):=(blk_cell BK317.out 1).trans rfl;have hfz21_0:=blk_frozen BK317.out 0;have hfz21_1:=blk_frozen BK317.out 1;have hcz22_0 : w19.cell? ⟨gb316,0,none⟩ = some (.int .i64 0):=(blk_cell BK316.out 0).trans rfl;have hcz22_1 : w19.cell? ⟨gb316,1,none⟩ = some (.int .i64 0):=(blk_cell BK316.out 1).trans rfl;have hfz22_0:=blk_frozen BK316.out 0;have hfz22_1:=blk_frozen BK316.out 1))
       refine bodyPost_ret (results_cell_row rfl _ _ gb316 36 #[.int .i64 t318,.int .i64 t319] (0,0) _ rfl (by (with_reducible repeat (first|refine blk_drewN ?_ _|refine blk_drew ?_|refine blk_alloc ?_ _));refine blk_put (cs:=#[.int .i64 t318,.int .i64 0]) ?_ 1 _ rfl;(with_reducible repeat (first|refine blk_drewN ?_ _|refine blk_drew ?_|refine blk_alloc ?_ _));refine blk_put (cs:=#[.int .i64 0,.int .i64 0]) ?_ 0 _ rfl;(with_reducible repeat (first|refine blk_drewN ?_ _|refine blk_drew ?_|refine blk_alloc ?_ _));refine blk_far ?_ NB316_317.out _;(with_reducible repeat (first|refine blk_drewN ?_ _|refine blk_drew ?_|refine blk_alloc ?_ _));refine blk_far ?_ NB316_317.out _;(with_reducible repeat (first|refine blk_drewN ?_ _|refine blk_drew ?_|refine blk_alloc ?_ _));exact BK316.out) Try.underlying36 rfl (by kernel_rfl)) rfl ?_
       exact ⟨by first|rfl|(simp [errW_none,errW_some] <;> rfl)|(simp [*,errW_none,errW_some] <;> rfl),by repeat (first|(with_reducible first|exact HB.out|apply ba|apply bb|apply bc|refine below_set ?_ GE316.out|refine below_set ?_ GE317.out)|exact HB.out)⟩
      ·
       replace c17:=Bool.eq_false_iff.mpr c17
       subst c17
       have H1 : (if a1 = 0 then (some (1,1)) else (if a2 = 0 then (some (1,1)) else ((shapesearchref01_Make.f kj13 (wrap64 ((wrap64 (a1 * a2)) + (wrap64 (a0 * a0)))) (wrap64 (a1 * a2))).bind fun bt321=>(some (bt321.1,bt321.2.1))))) = some (r1,r2):=by rw [if_neg (show ¬ (false = true) by decide)] at H;exact H
       clear H
       have H:=H1
       clear H1
       by_cases c23 : a1 = 0
       ·
        rw [if_pos c23] at H
        have c23b0 : (a1 == 0) = true:=beq_iff_eq.mpr c23
        have c23b1 : (a1 != 0) = false:=bne_eq_false_iff_eq.mpr c23
        clear c23
        simp only [Option.some.injEq,Prod.mk.injEq] at H
        obtain ⟨rfl,rfl⟩:=H
        have hnb24:=NB317_316.out
        have hnc24:=NB316_317.out
        have hcz25_0 : wc.cell? ⟨gb317,0,none⟩ = some (.int .i64 1):=(blk_cell BK317.out 0).trans rfl
        have hcz25_1 : wc.cell? ⟨gb317,1,none⟩ = some (.int .i64 1):=(blk_cell BK317.out 1).trans rfl
        have hfz25_0:=blk_frozen BK317.out 0
        have hfz25_1:=blk_frozen BK317.out 1
        have hcz26_0 : wc.cell? ⟨gb316,0,none⟩ = some (.int .i64 0):=(blk_cell BK316.out 0).trans rfl
        have hcz26_1 : wc.cell? ⟨gb316,1,none⟩ = some (.int .i64 0):=(blk_cell BK316.out 1).trans rfl
        have hfz26_0:=blk_frozen BK316.out 0
        have hfz26_1:=blk_frozen BK316.out 1
        go_wp2
        refine bodyPost_ret (results_cell_row rfl _ _ gb316 36 #[.int .i64 1,.int .i64 1] (0,0) _ rfl (by (with_reducible repeat (first|refine blk_drewN ?_ _|refine blk_drew ?_|refine blk_alloc ?_ _));refine blk_put (cs:=#[.int .i64 1,.int .i64 0]) ?_ 1 _ rfl;(with_reducible repeat (first|refine blk_drewN ?_ _|refine blk_drew ?_|refine blk_alloc ?_ _));refine blk_put (cs:=#[.int .i64 0,.int .i64 0]) ?_ 0 _ rfl;(with_reducible repeat (first|refine blk_drewN ?_ _|refine blk_drew ?_|refine blk_alloc ?_ _));exact BK316.out) Try.underlying36 rfl (by kernel_rfl)) rfl ?_
        exact ⟨by first|rfl|(simp [errW_none,errW_some] <;> rfl)|(simp [*,errW_none,errW_some] <;> rfl),by repeat (first|(with_reducible first|exact HB.out|apply ba|apply bb|apply bc|refine below_set ?_ GE316.out|refine below_set ?_ GE317.out)|exact HB.out)⟩
       ·
        rw [if_neg c23] at H
        have c23b0 : (a1 == 0) = false:=beq_eq_false_iff_ne.mpr c23
        have c23b1 : (a1 != 0) = true:=bne_iff_ne.mpr c23
        by_cases c27 : a2 = 0
        ·
         rw [if_pos c27] at H
         have c27b0 : (a2 == 0) = true:=beq_iff_eq.mpr c27
         have c27b1 : (a2 != 0) = false:=bne_eq_false_iff_eq.mpr c27
         clear c27
         simp only [Option.some.injEq,Prod.mk.injEq] at H
         obtain ⟨rfl,rfl⟩:=H
         have hnb28:=NB317_316.out
         have hnc28:=NB316_317.out
         have hcz29_0 : wc.cell? ⟨gb317,0,none⟩ = some (.int .i64 1):=(blk_cell BK317.out 0).trans rfl
         have hcz29_1 : wc.cell? ⟨gb317,1,none⟩ = some (.int .i64 1):=(blk_cell BK317.out 1).trans rfl
         have hfz29_0:=blk_frozen BK317.out 0
         have hfz29_1:=blk_frozen BK317.out 1
         have hcz30_0 : wc.cell? ⟨gb316,0,none⟩ = some (.int .i64 0):=(blk_cell BK316.out 0).trans rfl
         have hcz30_1 : wc.cell? ⟨gb316,1,none⟩ = some (.int .i64 0):=(blk_cell BK316.out 1).trans rfl
         have hfz30_0:=blk_frozen BK316.out 0
         have hfz30_1:=blk_frozen BK316.out 1
         go_wp2
         refine bodyPost_ret (results_cell_row rfl _ _ gb316 36 #[.int .i64 1,.int .i64 1] (0,0) _ rfl (by (with_reducible repeat (first|refine blk_drewN ?_ _|refine blk_drew ?_|refine blk_alloc ?_ _));refine blk_put (cs:=#[.int .i64 1,.int .i64 0]) ?_ 1 _ rfl;(with_reducible repeat (first|refine blk_drewN ?_ _|refine blk_drew ?_|refine blk_alloc ?_ _));refine blk_put (cs:=#[.int .i64 0,.int .i64 0]) ?_ 0 _ rfl;(with_reducible repeat (first|refine blk_drewN ?_ _|refine blk_drew ?_|refine blk_alloc ?_ _));exact BK316.out) Try.underlying36 rfl (by kernel_rfl)) rfl ?_
         exact ⟨by first|rfl|(simp [errW_none,errW_some] <;> rfl)|(simp [*,errW_none,errW_some] <;> rfl),by repeat (first|(with_reducible first|exact HB.out|apply ba|apply bb|apply bc|refine below_set ?_ GE316.out|refine below_set ?_ GE317.out)|exact HB.out)⟩
        ·
         rw [if_neg c27] at H
         have c27b0 : (a2 == 0) = false:=beq_eq_false_iff_ne.mpr c27
         have c27b1 : (a2 != 0) = true:=bne_iff_ne.mpr c27
         replace H:=Option.bind_eq_some_iff.mp H
         obtain ⟨⟨t321,t322,t323⟩,A310,H⟩:=H
         replace H : (some (t321,t322)) = some (r1,r2):=H
         have A31:=A_ A310
         clear A310
         simp only [Option.some.injEq,Prod.mk.injEq] at H
         obtain ⟨rfl,rfl⟩:=H
         go_wp2_with (first|((with_reducible refine gate_callee (f:=65) rfl ?_);refine goesL_ (some 60) rfl rfl Try.func65 (by kernel_rfl) rfl #[.int .i64 (wrap64 ((wrap64 (a1 * a2)) + (wrap64 (a0 * a0)))),.int .i64 (wrap64 (a1 * a2))] rfl (by (try simp only [List.map_toArray,List.map_cons,List.map_nil]);first|done|rfl|(simp only [List.length_drop,List.length_take];rfl)) ?_;(with_reducible refine (shapesearchref01_Make.calls kj13 (wrap64 ((wrap64 (a1 * a2)) + (wrap64 (a0 * a0)))) (wrap64 (a1 * a2)) t321 t322 t323 _ A31.out).mono ?_);rintro e w32 ⟨rfl,hb⟩;refine ⟨_,rfl,?_⟩;have n0_:=A_ (blk_below (g:=gb316) (o:=.cells #[.int .i64 0,.int .i64 0] 36 (0,0)) (by (with_reducible repeat (first|refine blk_drewN ?_ _|refine blk_drew ?_|refine blk_alloc ?_ _));exact BK316.out) hb);have n1_:=A_ (blk_below (g:=gb317) (o:=.cells #[.int .i64 1,.int .i64 1] 36 (0,0)) (by (with_reducible repeat (first|refine blk_drewN ?_ _|refine blk_drew ?_|refine blk_alloc ?_ _));exact BK317.out) hb);have n2_:=A_ (below_step (by repeat (first|(with_reducible first|exact HB.out|apply ba|apply bb|apply bc|refine below_set ?_ GE316.out|refine below_set ?_ GE317.out)|exact HB.out)) hb);clear BK316;clear BK317;clear HB;have BK316:=n0_;have BK317:=n1_;have HB:=n2_;clear n0_ n1_ n2_;(try clear hb);(try clear hb2);(try clear hk);(try clear hi);have hnb33:=NB317_316.out;have hnc33:=NB316_317.out;have hcz34_0 : w32.cell? ⟨gb317,0,none⟩ = some (.int .i64 1):=(blk_cell BK317.out 0).trans rfl;have hcz34_1 : w32.cell? ⟨gb317,1,none⟩ = some (.int .i64 1):=(blk_cell BK317.out 1).trans rfl;have hfz34_0:=blk_frozen BK317.out 0;have hfz34_1:=blk_frozen BK317.out 1;have hcz35_0 : w32.cell? ⟨gb316,0,none⟩ = some (.int .i64 0):=(blk_cell BK316.out 0).trans rfl;have hcz35_1 : w32.cell? ⟨gb316,1,none⟩ = some (.int .i64 0):=(blk_cell BK316.out 1).trans rfl;have hfz35_0:=blk_frozen BK316.out 0;have hfz35_1:=blk_frozen BK316.out 1))
         refine bodyPost_ret (results_cell_row rfl _ _ gb316 36 #[.int .i64 t321,.int .i64 t322] (0,0) _ rfl (by (with_reducible repeat (first|refine blk_drewN ?_ _|refine blk_drew ?_|refine blk_alloc ?_ _));refine blk_put (cs:=#[.int .i64 t321,.int .i64 0]) ?_ 1 _ rfl;(with_reducible repeat (first|refine blk_drewN ?_ _|refine blk_drew ?_|refine blk_alloc ?_ _));refine blk_put (cs:=#[.int .i64 0,.int .i64 0]) ?_ 0 _ rfl;(with_reducible repeat (first|refine blk_drewN ?_ _|refine blk_drew ?_|refine blk_alloc ?_ _));refine blk_far ?_ NB316_317.out _;(with_reducible repeat (first|refine blk_drewN ?_ _|refine blk_drew ?_|refine blk_alloc ?_ _));refine blk_far ?_ NB316_317.out _;(with_reducible repeat (first|refine blk_drewN ?_ _|refine blk_drew ?_|refine blk_alloc ?_ _));exact BK316.out) Try.underlying36 rfl (by kernel_rfl)) rfl ?_
         exact ⟨by first|rfl|(simp [errW_none,errW_some] <;> rfl)|(simp [*,errW_none,errW_some] <;> rfl),by repeat (first|(with_reducible first|exact HB.out|apply ba|apply bb|apply bc|refine below_set ?_ GE316.out|refine below_set ?_ GE317.out)|exact HB.out)⟩

/-! ### shapesearchref13_Gap: function 21 -/
def shapesearchref13_Gap.f (k : Nat) (l0 : List Int) (l1 : List Int) : Option (Int × Int × Int):=(shapesearchref13_Product.f k l0 l1).bind fun bt325=>(if bt325.2 = 0 then ((shapesearchref13_product.f k l0 l0).bind fun t327=>((shapesearchref13_product.f k l1 l1).bind fun t328=>((shapesearchref13_Between.f k bt325.1 t327 t328).bind fun bt329=>(some (bt329.1,bt329.2,0))))) else (some (0,0,bt325.2)))
theorem shapesearchref13_Gap.mono : ∀ a0 a1 k,LeO (shapesearchref13_Gap.f k a0 a1) (shapesearchref13_Gap.f (k + 1) a0 a1):=by
 intro a0 a1 k
 unfold shapesearchref13_Gap.f
 repeat' first
   | (with_reducible exact shapesearchref13_Between.mono _ _ _ _)
   | (with_reducible exact shapesearchref13_Product.mono _ _ _)
   | (with_reducible exact shapesearchref13_product.mono _ _ _)
   | (with_reducible exact LeO.refl _)
   | (with_reducible exact LeO.none _)
   | (with_reducible refine LeO.ite ?_ ?_)
   | (with_reducible refine LeO.bind ?_ (fun _=>?_))
   | exact shapesearchref13_Between.mono _ _ _ _
   | exact shapesearchref13_Product.mono _ _ _
   | exact shapesearchref13_product.mono _ _ _
   | exact LeO.none _
   | refine LeO.ite ?_ ?_
   | refine LeO.bind ?_ (fun _=>?_)
set_option maxHeartbeats 8000000 in
set_option maxRecDepth 100000 in
theorem shapesearchref13_Gap.calls (k : Nat) (A0 : Option Addr) (c0 : Nat) (l0 : List Int) (A1 : Option Addr) (c1 : Nat) (l1 : List Int) (r1 : Int) (r2 : Int) (r3 : Int) (w : World) (hr0 : Kd.C (Kd.int .i64) w A0 l0.length l0) (hc0 : l0.length ≤ c0) (hr1 : Kd.C (Kd.int .i64) w A1 l1.length l1) (hc1 : l1.length ≤ c1) (h : shapesearchref13_Gap.f k l0 l1 = some (r1,r2,r3)) :
  Calls Try.prog 21 #[.slice A0 l0.length c0,.slice A1 l1.length c1] w fun e w'=>e = .returned (.tuple #[.agg #[.int .i64 r1,.int .i64 r2],.int .i64 r3])∧Below w.heap.size w w':=by
 have hu36:=Try.underlying36
 have HR0:=A_ hr0
 have HC0:=A_ hc0
 clear hr0 hc0
 have HR1:=A_ hr1
 have HC1:=A_ hc1
 clear hr1 hc1
 have HB:=A_ (Below.refl w.heap.size w)
 have H : ((shapesearchref13_Product.f k l0 l1).bind fun bt325=>(if bt325.2 = 0 then ((shapesearchref13_product.f k l0 l0).bind fun t327=>((shapesearchref13_product.f k l1 l1).bind fun t328=>((shapesearchref13_Between.f k bt325.1 t327 t328).bind fun bt329=>(some (bt329.1,bt329.2,0))))) else (some (0,0,bt325.2)))) = some (r1,r2,r3):=h
 clear h
 replace H:=Option.bind_eq_some_iff.mp H
 obtain ⟨⟨t325,t326⟩,A30,H⟩:=H
 replace H : (if t326 = 0 then ((shapesearchref13_product.f k l0 l0).bind fun t327=>((shapesearchref13_product.f k l1 l1).bind fun t328=>((shapesearchref13_Between.f k t325 t327 t328).bind fun bt329=>(some (bt329.1,bt329.2,0))))) else (some (0,0,t326))) = some (r1,r2,r3):=H
 have A3:=A_ A30
 clear A30
 by_cases c4 : t326 = 0
 ·
  rw [if_pos c4] at H
  have c4b0 : (t326 == 0) = true:=beq_iff_eq.mpr c4
  have c4b1 : (t326 != 0) = false:=bne_eq_false_iff_eq.mpr c4
  clear c4
  replace H:=Option.bind_eq_some_iff.mp H
  obtain ⟨t327,A50,H⟩:=H
  replace H : ((shapesearchref13_product.f k l1 l1).bind fun t328=>((shapesearchref13_Between.f k t325 t327 t328).bind fun bt329=>(some (bt329.1,bt329.2,0)))) = some (r1,r2,r3):=H
  have A5:=A_ A50
  clear A50
  replace H:=Option.bind_eq_some_iff.mp H
  obtain ⟨t328,A60,H⟩:=H
  replace H : ((shapesearchref13_Between.f k t325 t327 t328).bind fun bt329=>(some (bt329.1,bt329.2,0))) = some (r1,r2,r3):=H
  have A6:=A_ A60
  clear A60
  replace H:=Option.bind_eq_some_iff.mp H
  obtain ⟨⟨t329,t330⟩,A70,H⟩:=H
  replace H : (some (t329,t330,0)) = some (r1,r2,r3):=H
  have A7:=A_ A70
  clear A70
  simp only [Option.some.injEq,Prod.mk.injEq] at H
  obtain ⟨rfl,rfl,rfl⟩:=H
  go_enter Try.func21,Try.ntmps21
  go_wp2_with (first|((with_reducible refine gate_dst (N:=4) rfl ?_);refine box_event ?hg (N:=4) ?hd (cs:=#[.int .i64 0,.int .i64 0]) (t:=36) ?hr ?_;(case hd=>rfl);(case hg=>rfl);(case hr=>first|(go_simp;done)|(go_simp;rfl));intro gb324 hg w8 hbox hb;have n0_:=A_ (below_step (by repeat (first|(with_reducible first|exact HB.out|apply ba|apply bb|apply bc)|exact HB.out)) hb);have n1_:=A_ (hbox);have n2_:=A_ ((by rw [hg];exact (below_size (by repeat (first|(with_reducible first|exact HB.out|apply ba|apply bb|apply bc)|exact HB.out))) : w.heap.size ≤ gb324));have n3_:=A_ ((by rw [hg];exact (below_size (by repeat (first|(with_reducible first|exact HB.out|apply ba|apply bb|apply bc)|exact HB.out))) : w.heap.size ≤ gb324));clear HB;have HB:=n0_;have BK324:=n1_;have GW324:=n2_;have GE324:=n3_;clear n0_ n1_ n2_ n3_;clear hb hbox hg)|((with_reducible refine gate_callee (f:=48) rfl ?_);refine goesL_ (some 11) rfl rfl Try.func48 (by kernel_rfl) rfl #[.slice A0 l0.length c0,.slice A1 l1.length c1] rfl (by (try simp only [List.map_toArray,List.map_cons,List.map_nil]);first|done|rfl|(simp only [List.length_drop,List.length_take];rfl)) ?_;(with_reducible refine (shapesearchref13_Product.calls k _ _ l0 _ _ l1 t325 t326 _ ?side1 ?side2 ?side3 ?side4 A3.out).mono ?_);(case side1=>repeat (first|exact (cl HR0.out HB.out)|(with_reducible refine ca ?_ _)|(with_reducible refine cb ?_ _)|(with_reducible refine cc ?_)));(case side2=>exact HC0.out);(case side3=>repeat (first|exact (cl HR1.out HB.out)|(with_reducible refine ca ?_ _)|(with_reducible refine cb ?_ _)|(with_reducible refine cc ?_)));(case side4=>exact HC1.out);rintro e w' ⟨rfl,⟨nd,rfl⟩⟩;refine ⟨_,rfl,?_⟩;(try (rw [drewN_self w8];generalize hq_ : World.drewN w8 _ = w8;have n0_ : Aside0 (w8.heap[gb324]? = some (.cells #[.int .i64 0,.int .i64 0] 36 (0,0))):=⟨by rw [← hq_];exact (by (with_reducible repeat (first|refine blk_drewN ?_ _|refine blk_drew ?_|refine blk_alloc ?_ _));exact BK324.out)⟩;have n1_ : Aside0 (Below w.heap.size w w8):=⟨by rw [← hq_];exact (by repeat (first|(with_reducible first|exact HB.out|apply ba|apply bb|apply bc|refine below_set ?_ GE324.out)|exact HB.out))⟩;clear BK324 HB hq_;have BK324:=n0_;have HB:=n1_;clear n0_ n1_)))|((with_reducible refine gate_callee (f:=50) rfl ?_);refine goesL_ (some 21) rfl rfl Try.func50 (by kernel_rfl) rfl #[.slice A0 l0.length c0,.slice A0 l0.length c0] rfl (by (try simp only [List.map_toArray,List.map_cons,List.map_nil]);first|done|rfl|(simp only [List.length_drop,List.length_take];rfl)) ?_;(with_reducible refine (shapesearchref13_product.calls k _ _ l0 _ _ l0 t327 _ ?side1 ?side2 ?side3 ?side4 A5.out).mono ?_);(case side1=>repeat (first|exact (cl HR0.out HB.out)|(with_reducible refine ca ?_ _)|(with_reducible refine cb ?_ _)|(with_reducible refine cc ?_)));(case side2=>exact HC0.out);(case side3=>repeat (first|exact (cl HR0.out HB.out)|(with_reducible refine ca ?_ _)|(with_reducible refine cb ?_ _)|(with_reducible refine cc ?_)));(case side4=>exact HC0.out);rintro e w' ⟨rfl,⟨nd,rfl⟩⟩;refine ⟨_,rfl,?_⟩;(try (rw [drewN_self w8];generalize hq_ : World.drewN w8 _ = w8;have n0_ : Aside0 (w8.heap[gb324]? = some (.cells #[.int .i64 0,.int .i64 0] 36 (0,0))):=⟨by rw [← hq_];exact (by (with_reducible repeat (first|refine blk_drewN ?_ _|refine blk_drew ?_|refine blk_alloc ?_ _));exact BK324.out)⟩;have n1_ : Aside0 (Below w.heap.size w w8):=⟨by rw [← hq_];exact (by repeat (first|(with_reducible first|exact HB.out|apply ba|apply bb|apply bc|refine below_set ?_ GE324.out)|exact HB.out))⟩;clear BK324 HB hq_;have BK324:=n0_;have HB:=n1_;clear n0_ n1_)))|((with_reducible refine gate_callee (f:=50) rfl ?_);refine goesL_ (some 24) rfl rfl Try.func50 (by kernel_rfl) rfl #[.slice A1 l1.length c1,.slice A1 l1.length c1] rfl (by (try simp only [List.map_toArray,List.map_cons,List.map_nil]);first|done|rfl|(simp only [List.length_drop,List.length_take];rfl)) ?_;(with_reducible refine (shapesearchref13_product.calls k _ _ l1 _ _ l1 t328 _ ?side1 ?side2 ?side3 ?side4 A6.out).mono ?_);(case side1=>repeat (first|exact (cl HR1.out HB.out)|(with_reducible refine ca ?_ _)|(with_reducible refine cb ?_ _)|(with_reducible refine cc ?_)));(case side2=>exact HC1.out);(case side3=>repeat (first|exact (cl HR1.out HB.out)|(with_reducible refine ca ?_ _)|(with_reducible refine cb ?_ _)|(with_reducible refine cc ?_)));(case side4=>exact HC1.out);rintro e w' ⟨rfl,⟨nd,rfl⟩⟩;refine ⟨_,rfl,?_⟩;(try (rw [drewN_self w8];generalize hq_ : World.drewN w8 _ = w8;have n0_ : Aside0 (w8.heap[gb324]? = some (.cells #[.int .i64 0,.int .i64 0] 36 (0,0))):=⟨by rw [← hq_];exact (by (with_reducible repeat (first|refine blk_drewN ?_ _|refine blk_drew ?_|refine blk_alloc ?_ _));exact BK324.out)⟩;have n1_ : Aside0 (Below w.heap.size w w8):=⟨by rw [← hq_];exact (by repeat (first|(with_reducible first|exact HB.out|apply ba|apply bb|apply bc|refine below_set ?_ GE324.out)|exact HB.out))⟩;clear BK324 HB hq_;have BK324:=n0_;have HB:=n1_;clear n0_ n1_)))|((with_reducible refine gate_callee (f:=49) rfl ?_);refine goesL_ (some 25) rfl rfl Try.func49 (by kernel_rfl) rfl #[.int .i64 t325,.int .i64 t327,.int .i64 t328] rfl (by (try simp only [List.map_toArray,List.map_cons,List.map_nil]);first|done|rfl|(simp only [List.length_drop,List.length_take];rfl)) ?_;(with_reducible refine (shapesearchref13_Between.calls k t325 t327 t328 t329 t330 _ A7.out).mono ?_);rintro e w9 ⟨rfl,hb⟩;refine ⟨_,rfl,?_⟩;have n0_:=A_ (blk_below (g:=gb324) (o:=.cells #[.int .i64 0,.int .i64 0] 36 (0,0)) (by (with_reducible repeat (first|refine blk_drewN ?_ _|refine blk_drew ?_|refine blk_alloc ?_ _));exact BK324.out) hb);have n1_:=A_ (below_step (by repeat (first|(with_reducible first|exact HB.out|apply ba|apply bb|apply bc|refine below_set ?_ GE324.out)|exact HB.out)) hb);clear BK324;clear HB;have BK324:=n0_;have HB:=n1_;clear n0_ n1_;(try clear hb);(try clear hb2);(try clear hk);(try clear hi);have hcz10_0 : w9.cell? ⟨gb324,0,none⟩ = some (.int .i64 0):=(blk_cell BK324.out 0).trans rfl;have hcz10_1 : w9.cell? ⟨gb324,1,none⟩ = some (.int .i64 0):=(blk_cell BK324.out 1).trans rfl;have hfz10_0:=blk_frozen BK324.out 0;have hfz10_1:=blk_frozen BK324.out 1))
  refine bodyPost_ret (results_ct rfl _ _ gb324 36 #[.int .i64 t329,.int .i64 t330] (0,0) _ rfl (by (with_reducible repeat (first|refine blk_drewN ?_ _|refine blk_drew ?_|refine blk_alloc ?_ _));refine blk_put (cs:=#[.int .i64 t329,.int .i64 0]) ?_ 1 _ rfl;(with_reducible repeat (first|refine blk_drewN ?_ _|refine blk_drew ?_|refine blk_alloc ?_ _));refine blk_put (cs:=#[.int .i64 0,.int .i64 0]) ?_ 0 _ rfl;(with_reducible repeat (first|refine blk_drewN ?_ _|refine blk_drew ?_|refine blk_alloc ?_ _));exact BK324.out) Try.underlying36 rfl (by kernel_rfl)) rfl ?_
  exact ⟨by first|rfl|(simp [errW_none,errW_some] <;> rfl)|(simp [*,errW_none,errW_some] <;> rfl),by repeat (first|(with_reducible first|exact HB.out|apply ba|apply bb|apply bc|refine below_set ?_ GE324.out)|exact HB.out)⟩
 ·
  rw [if_neg c4] at H
  have c4b0 : (t326 == 0) = false:=beq_eq_false_iff_ne.mpr c4
  have c4b1 : (t326 != 0) = true:=bne_iff_ne.mpr c4
  simp only [Option.some.injEq,Prod.mk.injEq] at H
  obtain ⟨rfl,rfl,rfl⟩:=H
  go_enter Try.func21,Try.ntmps21
  go_wp2_with (first|((with_reducible refine gate_dst (N:=4) rfl ?_);refine box_event ?hg (N:=4) ?hd (cs:=#[.int .i64 0,.int .i64 0]) (t:=36) ?hr ?_;(case hd=>rfl);(case hg=>rfl);(case hr=>first|(go_simp;done)|(go_simp;rfl));intro gb324 hg w11 hbox hb;have n0_:=A_ (below_step (by repeat (first|(with_reducible first|exact HB.out|apply ba|apply bb|apply bc)|exact HB.out)) hb);have n1_:=A_ (hbox);have n2_:=A_ ((by rw [hg];exact (below_size (by repeat (first|(with_reducible first|exact HB.out|apply ba|apply bb|apply bc)|exact HB.out))) : w.heap.size ≤ gb324));have n3_:=A_ ((by rw [hg];exact (below_size (by repeat (first|(with_reducible first|exact HB.out|apply ba|apply bb|apply bc)|exact HB.out))) : w.heap.size ≤ gb324));clear HB;have HB:=n0_;have BK324:=n1_;have GW324:=n2_;have GE324:=n3_;clear n0_ n1_ n2_ n3_;clear hb hbox hg)|((with_reducible refine gate_callee (f:=48) rfl ?_);refine goesL_ (some 11) rfl rfl Try.func48 (by kernel_rfl) rfl #[.slice A0 l0.length c0,.slice A1 l1.length c1] rfl (by (try simp only [List.map_toArray,List.map_cons,List.map_nil]);first|done|rfl|(simp only [List.length_drop,List.length_take];rfl)) ?_;(with_reducible refine (shapesearchref13_Product.calls k _ _ l0 _ _ l1 t325 t326 _ ?side1 ?side2 ?side3 ?side4 A3.out).mono ?_);(case side1=>repeat (first|exact (cl HR0.out HB.out)|(with_reducible refine ca ?_ _)|(with_reducible refine cb ?_ _)|(with_reducible refine cc ?_)));(case side2=>exact HC0.out);(case side3=>repeat (first|exact (cl HR1.out HB.out)|(with_reducible refine ca ?_ _)|(with_reducible refine cb ?_ _)|(with_reducible refine cc ?_)));(case side4=>exact HC1.out);rintro e w' ⟨rfl,⟨nd,rfl⟩⟩;refine ⟨_,rfl,?_⟩;(try (rw [drewN_self w11];generalize hq_ : World.drewN w11 _ = w11;have n0_ : Aside0 (w11.heap[gb324]? = some (.cells #[.int .i64 0,.int .i64 0] 36 (0,0))):=⟨by rw [← hq_];exact (by (with_reducible repeat (first|refine blk_drewN ?_ _|refine blk_drew ?_|refine blk_alloc ?_ _));exact BK324.out)⟩;have n1_ : Aside0 (Below w.heap.size w w11):=⟨by rw [← hq_];exact (by repeat (first|(with_reducible first|exact HB.out|apply ba|apply bb|apply bc|refine below_set ?_ GE324.out)|exact HB.out))⟩;clear BK324 HB hq_;have BK324:=n0_;have HB:=n1_;clear n0_ n1_));have hcz12_0 : w11.cell? ⟨gb324,0,none⟩ = some (.int .i64 0):=(blk_cell BK324.out 0).trans rfl;have hcz12_1 : w11.cell? ⟨gb324,1,none⟩ = some (.int .i64 0):=(blk_cell BK324.out 1).trans rfl;have hfz12_0:=blk_frozen BK324.out 0;have hfz12_1:=blk_frozen BK324.out 1))
  refine bodyPost_ret (results_ct rfl _ _ gb324 36 #[.int .i64 0,.int .i64 0] (0,0) _ rfl (by (with_reducible repeat (first|refine blk_drewN ?_ _|refine blk_drew ?_|refine blk_alloc ?_ _));refine blk_put (cs:=#[.int .i64 0,.int .i64 0]) ?_ 1 _ rfl;(with_reducible repeat (first|refine blk_drewN ?_ _|refine blk_drew ?_|refine blk_alloc ?_ _));refine blk_put (cs:=#[.int .i64 0,.int .i64 0]) ?_ 0 _ rfl;(with_reducible repeat (first|refine blk_drewN ?_ _|refine blk_drew ?_|refine blk_alloc ?_ _));exact BK324.out) Try.underlying36 rfl (by kernel_rfl)) rfl ?_
  exact ⟨by first|rfl|(simp [errW_none,errW_some] <;> rfl)|(simp [*,errW_none,errW_some] <;> rfl),by repeat (first|(with_reducible first|exact HB.out|apply ba|apply bb|apply bc|refine below_set ?_ GE324.out)|exact HB.out)⟩

/-! ### shapesearchref01_order: function 43 -/
mutual
def shapesearchref01_order.j0 : Nat → Int → Int → Int → Int → Bool → Option (Int)
 | 0,_,_,_,_,_=>none
 | k + 1,x0,x1,x2,x3,x29=>if x29 = true then (some 0) else (if x0 = 0 then (some (-1)) else (if x2 = 0 then (some 1) else ((shapesearchref01_order.f k x3 x2 x1 x0).bind fun t331=>(some t331))))
def shapesearchref01_order.f : Nat → Int → Int → Int → Int → Option (Int)
 | 0,_,_,_,_=>none
 | k + 1,a0,a1,a2,a3=>if a1 = 0 then (none) else (if a3 = 0 then (none) else (if (wrap64 (Int.tdiv a0 a1)) = (wrap64 (Int.tdiv a2 a3)) then (if (Int.tmod a0 a1) = 0 then (shapesearchref01_order.j0 k (Int.tmod a0 a1) a1 (Int.tmod a2 a3) a3 ((Int.tmod a2 a3) == 0)) else (shapesearchref01_order.j0 k (Int.tmod a0 a1) a1 (Int.tmod a2 a3) a3 false)) else (if (wrap64 (Int.tdiv a0 a1)) < (wrap64 (Int.tdiv a2 a3)) then (some (-1)) else (some 1))))
end
theorem shapesearchref01_order.mono_l : ∀ k,(∀ y0 y1 y2 y3,LeO (shapesearchref01_order.f k y0 y1 y2 y3) (shapesearchref01_order.f (k + 1) y0 y1 y2 y3))∧(∀ y0 y1 y2 y3 y4,LeO (shapesearchref01_order.j0 k y0 y1 y2 y3 y4) (shapesearchref01_order.j0 (k + 1) y0 y1 y2 y3 y4))
 | 0=>⟨fun _ _ _ _ r h=>by simp [shapesearchref01_order.f] at h,fun _ _ _ _ _ r h=>by simp [shapesearchref01_order.j0] at h⟩
 | k + 1=>by
  obtain ⟨ih0,ih1⟩:=shapesearchref01_order.mono_l k
  refine ⟨?_,?_⟩
  ·
   intro y0 y1 y2 y3
   unfold shapesearchref01_order.f
   repeat' first
   | (with_reducible exact ih0 _ _ _ _)
   | (with_reducible exact ih1 _ _ _ _ _)
   | (with_reducible exact LeO.refl _)
   | (with_reducible exact LeO.none _)
   | (with_reducible refine LeO.ite ?_ ?_)
   | (with_reducible refine LeO.bind ?_ (fun _=>?_))
   | exact ih0 _ _ _ _
   | exact ih1 _ _ _ _ _
   | exact LeO.none _
   | refine LeO.ite ?_ ?_
   | refine LeO.bind ?_ (fun _=>?_)
  ·
   intro y0 y1 y2 y3 y4
   unfold shapesearchref01_order.j0
   repeat' first
   | (with_reducible exact ih0 _ _ _ _)
   | (with_reducible exact ih1 _ _ _ _ _)
   | (with_reducible exact LeO.refl _)
   | (with_reducible exact LeO.none _)
   | (with_reducible refine LeO.ite ?_ ?_)
   | (with_reducible refine LeO.bind ?_ (fun _=>?_))
   | exact ih0 _ _ _ _
   | exact ih1 _ _ _ _ _
   | exact LeO.none _
   | refine LeO.ite ?_ ?_
   | refine LeO.bind ?_ (fun _=>?_)
theorem shapesearchref01_order.mono : ∀ a0 a1 a2 a3 k,LeO (shapesearchref01_order.f k a0 a1 a2 a3) (shapesearchref01_order.f (k + 1) a0 a1 a2 a3):=by
 intro a0 a1 a2 a3 k
 obtain ⟨ih0,ih1⟩:=shapesearchref01_order.mono_l k
 exact ih0 a0 a1 a2 a3
set_option maxHeartbeats 8000000 in
set_option maxRecDepth 100000 in
theorem shapesearchref01_order.calls (k : Nat) : ∀ (a0 : Int) (a1 : Int) (a2 : Int) (a3 : Int) (r : Int) (w : World) (h : shapesearchref01_order.f k a0 a1 a2 a3 = some r),
  Calls Try.prog 43 #[.int .i64 a0,.int .i64 a1,.int .i64 a2,.int .i64 a3] w fun e w'=>e = .returned (.int .i64 r)∧Drawn0 w w':=by
 induction k using Nat.strongRecOn with
 | _ k ih =>
 intro a0 a1 a2 a3 r w h
 cases k with
 | zero=>exact absurd h (by simp [shapesearchref01_order.f])
 | succ k =>
 simp only [shapesearchref01_order.f] at h
 have H : (if a1 = 0 then (none) else (if a3 = 0 then (none) else (if (wrap64 (Int.tdiv a0 a1)) = (wrap64 (Int.tdiv a2 a3)) then (if (Int.tmod a0 a1) = 0 then (shapesearchref01_order.j0 k (Int.tmod a0 a1) a1 (Int.tmod a2 a3) a3 ((Int.tmod a2 a3) == 0)) else (shapesearchref01_order.j0 k (Int.tmod a0 a1) a1 (Int.tmod a2 a3) a3 false)) else (if (wrap64 (Int.tdiv a0 a1)) < (wrap64 (Int.tdiv a2 a3)) then (some (-1)) else (some 1))))) = some r:=h
 clear h
 by_cases c5 : a1 = 0
 ·
  rw [if_pos c5] at H
  exact absurd H (by simp)
 ·
  rw [if_neg c5] at H
  have c5b0 : (a1 == 0) = false:=beq_eq_false_iff_ne.mpr c5
  have c5b1 : (a1 != 0) = true:=bne_iff_ne.mpr c5
  by_cases c6 : a3 = 0
  ·
   rw [if_pos c6] at H
   exact absurd H (by simp)
  ·
   rw [if_neg c6] at H
   have c6b0 : (a3 == 0) = false:=beq_eq_false_iff_ne.mpr c6
   have c6b1 : (a3 != 0) = true:=bne_iff_ne.mpr c6
   by_cases c7 : (wrap64 (Int.tdiv a0 a1)) = (wrap64 (Int.tdiv a2 a3))
   ·
    rw [if_pos c7] at H
    have c7b0 : ((wrap64 (Int.tdiv a0 a1)) == (wrap64 (Int.tdiv a2 a3))) = true:=beq_iff_eq.mpr c7
    have c7b1 : ((wrap64 (Int.tdiv a0 a1)) != (wrap64 (Int.tdiv a2 a3))) = false:=bne_eq_false_iff_eq.mpr c7
    clear c7
    have HC8:=A_ H
    clear H
    go_enter Try.func43,Try.ntmps43
    go_upto_region 7 with (fail)
    repeat (go_quiet (fail);go_upto_region 7 with (fail))
    go_cut [29] (fun v29 wc=>∃ (kq : Nat) (x29_7 : Bool),v29 = .bool x29_7∧Aside0 (shapesearchref01_order.j0 kq (Int.tmod a0 a1) a1 (Int.tmod a2 a3) a3 x29_7 = some r)∧Aside0 (kq ≤ k)∧Drawn0 w wc)
    case first =>
     have H:=HC8.out
     clear HC8
     by_cases c9 : (Int.tmod a0 a1) = 0
     ·
      rw [if_pos c9] at H
      have c9b0 : ((Int.tmod a0 a1) == 0) = true:=beq_iff_eq.mpr c9
      have c9b1 : ((Int.tmod a0 a1) != 0) = false:=bne_eq_false_iff_eq.mpr c9
      clear c9
      (first|rw [c9b0]|(simp only [i64_w,i32_w];rw [c9b0])|skip)
      have H':=A_ H
      clear H
      go_wp2
      repeat (go_quiet (fail);try go_wp2)
      go_meet
      case rel=>exact ⟨_,(((Int.tmod a2 a3) == 0)),(by first|rfl|(simp;done)|(simp [*];done)),H',⟨by first|omega|exact Nat.le_refl _⟩,by repeat (first|exact Drawn0.refl _|apply Drawn0.step)⟩
     ·
      rw [if_neg c9] at H
      have c9b0 : ((Int.tmod a0 a1) == 0) = false:=beq_eq_false_iff_ne.mpr c9
      have c9b1 : ((Int.tmod a0 a1) != 0) = true:=bne_iff_ne.mpr c9
      (first|rw [c9b0]|(simp only [i64_w,i32_w];rw [c9b0])|skip)
      have H':=A_ H
      clear H
      go_wp2
      repeat (go_quiet (fail);try go_wp2)
      go_meet
      case rel=>exact ⟨_,(false),(by first|rfl|(simp;done)|(simp [*];done)),H',⟨by first|omega|exact Nat.le_refl _⟩,by repeat (first|exact Drawn0.refl _|apply Drawn0.step)⟩
    case rest =>
     clear HC8
     try clear p2
     try clear c4
     try clear c5
     try clear c5b0
     try clear c5b1
     try clear c6
     try clear c6b0
     try clear c6b1
     try clear p6
     try clear c7
     try clear c7b0
     try clear c7b1
     try clear c9
     try clear c9b0
     try clear c9b1
     obtain ⟨kq,x29_7,rfl,HA,HJ7,⟨mc7,rfl⟩⟩:=hcut
     cases kq with
     | zero=>exact absurd HA.out (by simp [shapesearchref01_order.j0])
     | succ kj7 =>
      have H:=HA.out
      clear HA
      simp only [shapesearchref01_order.j0] at H
      by_cases c10 : x29_7 = true
      ·
       subst c10
       have H1 : (some 0) = some r:=by rw [if_pos rfl] at H;exact H
       clear H
       have H:=H1
       clear H1
       obtain rfl:=Option.some.inj H
       go_wp2
       repeat (go_quiet (fail);try go_wp2)
       go_ret
       exact ⟨by first|rfl|(simp;done)|(simp [*];done),by repeat (first|exact Drawn0.refl _|apply Drawn0.step)⟩
      ·
       replace c10:=Bool.eq_false_iff.mpr c10
       subst c10
       have H1 : (if (Int.tmod a0 a1) = 0 then (some (-1)) else (if (Int.tmod a2 a3) = 0 then (some 1) else ((shapesearchref01_order.f kj7 a3 (Int.tmod a2 a3) a1 (Int.tmod a0 a1)).bind fun t331=>(some t331)))) = some r:=by rw [if_neg (show ¬ (false = true) by decide)] at H;exact H
       clear H
       have H:=H1
       clear H1
       by_cases c11 : (Int.tmod a0 a1) = 0
       ·
        rw [if_pos c11] at H
        have c11b0 : ((Int.tmod a0 a1) == 0) = true:=beq_iff_eq.mpr c11
        have c11b1 : ((Int.tmod a0 a1) != 0) = false:=bne_eq_false_iff_eq.mpr c11
        clear c11
        obtain rfl:=Option.some.inj H
        go_wp2
        repeat (go_quiet (fail);try go_wp2)
        go_ret
        exact ⟨by first|rfl|(simp;done)|(simp [*];done),by repeat (first|exact Drawn0.refl _|apply Drawn0.step)⟩
       ·
        rw [if_neg c11] at H
        have c11b0 : ((Int.tmod a0 a1) == 0) = false:=beq_eq_false_iff_ne.mpr c11
        have c11b1 : ((Int.tmod a0 a1) != 0) = true:=bne_iff_ne.mpr c11
        by_cases c12 : (Int.tmod a2 a3) = 0
        ·
         rw [if_pos c12] at H
         have c12b0 : ((Int.tmod a2 a3) == 0) = true:=beq_iff_eq.mpr c12
         have c12b1 : ((Int.tmod a2 a3) != 0) = false:=bne_eq_false_iff_eq.mpr c12
         clear c12
         obtain rfl:=Option.some.inj H
         go_wp2
         repeat (go_quiet (fail);try go_wp2)
         go_ret
         exact ⟨by first|rfl|(simp;done)|(simp [*];done),by repeat (first|exact Drawn0.refl _|apply Drawn0.step)⟩
        ·
         rw [if_neg c12] at H
         have c12b0 : ((Int.tmod a2 a3) == 0) = false:=beq_eq_false_iff_ne.mpr c12
         have c12b1 : ((Int.tmod a2 a3) != 0) = true:=bne_iff_ne.mpr c12
         replace H:=Option.bind_eq_some_iff.mp H
         obtain ⟨t331,A130,H⟩:=H
         replace H : (some t331) = some r:=H
         have A13:=A_ A130
         clear A130
         obtain rfl:=Option.some.inj H
         go_wp2_with (first|(go_at_call 43;(with_reducible refine (ih kj7 (by have:=HJ7.out;omega) a3 (Int.tmod a2 a3) a1 (Int.tmod a0 a1) t331 _ A13.out).mono ?_);rintro e w' ⟨rfl,⟨nd,rfl⟩⟩;(try first|exact ⟨rfl,_,World.drewN_drewN _ _ _⟩|exact ⟨rfl,_,Eq.trans (World.drewN_drewN _ _ _) (congrArg (World.drewN _) (Nat.add_assoc _ _ _))⟩)))
         repeat (go_quiet (first|(go_at_call 43;(with_reducible refine (ih kj7 (by have:=HJ7.out;omega) a3 (Int.tmod a2 a3) a1 (Int.tmod a0 a1) t331 _ A13.out).mono ?_);rintro e w' ⟨rfl,⟨nd,rfl⟩⟩;(try first|exact ⟨rfl,_,World.drewN_drewN _ _ _⟩|exact ⟨rfl,_,Eq.trans (World.drewN_drewN _ _ _) (congrArg (World.drewN _) (Nat.add_assoc _ _ _))⟩)));try go_wp2_with (first|(go_at_call 43;(with_reducible refine (ih kj7 (by have:=HJ7.out;omega) a3 (Int.tmod a2 a3) a1 (Int.tmod a0 a1) t331 _ A13.out).mono ?_);rintro e w' ⟨rfl,⟨nd,rfl⟩⟩;(try first|exact ⟨rfl,_,World.drewN_drewN _ _ _⟩|exact ⟨rfl,_,Eq.trans (World.drewN_drewN _ _ _) (congrArg (World.drewN _) (Nat.add_assoc _ _ _))⟩))))
         go_ret
         exact ⟨by first|rfl|(simp;done)|(simp [*];done),by repeat (first|exact Drawn0.refl _|apply Drawn0.step)⟩
   ·
    rw [if_neg c7] at H
    have c7b0 : ((wrap64 (Int.tdiv a0 a1)) == (wrap64 (Int.tdiv a2 a3))) = false:=beq_eq_false_iff_ne.mpr c7
    have c7b1 : ((wrap64 (Int.tdiv a0 a1)) != (wrap64 (Int.tdiv a2 a3))) = true:=bne_iff_ne.mpr c7
    by_cases c14 : (wrap64 (Int.tdiv a0 a1)) < (wrap64 (Int.tdiv a2 a3))
    ·
     rw [if_pos c14] at H
     have c14b0 : decide ((wrap64 (Int.tdiv a0 a1)) < (wrap64 (Int.tdiv a2 a3))) = true:=decide_eq_true c14
     clear c14
     obtain rfl:=Option.some.inj H
     go_enter Try.func43,Try.ntmps43
     go_wp2
     repeat (go_quiet (fail);try go_wp2)
     go_ret
     exact ⟨by first|rfl|(simp;done)|(simp [*];done),by repeat (first|exact Drawn0.refl _|apply Drawn0.step)⟩
    ·
     rw [if_neg c14] at H
     have c14b0 : decide ((wrap64 (Int.tdiv a0 a1)) < (wrap64 (Int.tdiv a2 a3))) = false:=decide_eq_false c14
     clear c14
     obtain rfl:=Option.some.inj H
     go_enter Try.func43,Try.ntmps43
     go_wp2
     repeat (go_quiet (fail);try go_wp2)
     go_ret
     exact ⟨by first|rfl|(simp;done)|(simp [*];done),by repeat (first|exact Drawn0.refl _|apply Drawn0.step)⟩

/-! ### shapesearchref01_Cmp: function 17 -/
def shapesearchref01_Cmp.f (k : Nat) (a0_0 : Int) (a0_1 : Int) (a1_0 : Int) (a1_1 : Int) : Option (Int):=(shapesearchref01_Valid.f k a0_0 a0_1).bind fun t334=>(if t334 = true then ((shapesearchref01_Valid.f k a1_0 a1_1).bind fun t335=>(if t335 = true then ((shapesearchref01_order.f k a0_0 a0_1 a1_0 a1_1).bind fun t336=>(some t336)) else (some 0))) else (some 0))
theorem shapesearchref01_Cmp.mono : ∀ a0 a1 a2 a3 k,LeO (shapesearchref01_Cmp.f k a0 a1 a2 a3) (shapesearchref01_Cmp.f (k + 1) a0 a1 a2 a3):=by
 intro a0 a1 a2 a3 k
 unfold shapesearchref01_Cmp.f
 repeat' first
   | (with_reducible exact shapesearchref01_Valid.mono _ _ _)
   | (with_reducible exact shapesearchref01_order.mono _ _ _ _ _)
   | (with_reducible exact LeO.refl _)
   | (with_reducible exact LeO.none _)
   | (with_reducible refine LeO.ite ?_ ?_)
   | (with_reducible refine LeO.bind ?_ (fun _=>?_))
   | exact shapesearchref01_Valid.mono _ _ _
   | exact shapesearchref01_order.mono _ _ _ _ _
   | exact LeO.none _
   | refine LeO.ite ?_ ?_
   | refine LeO.bind ?_ (fun _=>?_)
set_option maxHeartbeats 8000000 in
set_option maxRecDepth 100000 in
theorem shapesearchref01_Cmp.calls (k : Nat) (a0_0 : Int) (a0_1 : Int) (a1_0 : Int) (a1_1 : Int) (r : Int) (w : World) (h : shapesearchref01_Cmp.f k a0_0 a0_1 a1_0 a1_1 = some r) :
  Calls Try.prog 17 #[.agg #[.int .i64 a0_0,.int .i64 a0_1],.agg #[.int .i64 a1_0,.int .i64 a1_1]] w fun e w'=>e = .returned (.int .i64 r)∧Below w.heap.size w w':=by
 have hu36:=Try.underlying36
 have HB:=A_ (Below.refl w.heap.size w)
 have H : ((shapesearchref01_Valid.f k a0_0 a0_1).bind fun t334=>(if t334 = true then ((shapesearchref01_Valid.f k a1_0 a1_1).bind fun t335=>(if t335 = true then ((shapesearchref01_order.f k a0_0 a0_1 a1_0 a1_1).bind fun t336=>(some t336)) else (some 0))) else (some 0))) = some r:=h
 clear h
 replace H:=Option.bind_eq_some_iff.mp H
 obtain ⟨t334,A30,H⟩:=H
 replace H : (if t334 = true then ((shapesearchref01_Valid.f k a1_0 a1_1).bind fun t335=>(if t335 = true then ((shapesearchref01_order.f k a0_0 a0_1 a1_0 a1_1).bind fun t336=>(some t336)) else (some 0))) else (some 0)) = some r:=H
 have A3:=A_ A30
 clear A30
 by_cases c4 : t334 = true
 ·
  subst c4
  have H1 : ((shapesearchref01_Valid.f k a1_0 a1_1).bind fun t335=>(if t335 = true then ((shapesearchref01_order.f k a0_0 a0_1 a1_0 a1_1).bind fun t336=>(some t336)) else (some 0))) = some r:=by rw [if_pos rfl] at H;exact H
  clear H
  have H:=H1
  clear H1
  replace H:=Option.bind_eq_some_iff.mp H
  obtain ⟨t335,A50,H⟩:=H
  replace H : (if t335 = true then ((shapesearchref01_order.f k a0_0 a0_1 a1_0 a1_1).bind fun t336=>(some t336)) else (some 0)) = some r:=H
  have A5:=A_ A50
  clear A50
  by_cases c6 : t335 = true
  ·
   subst c6
   have H1 : ((shapesearchref01_order.f k a0_0 a0_1 a1_0 a1_1).bind fun t336=>(some t336)) = some r:=by rw [if_pos rfl] at H;exact H
   clear H
   have H:=H1
   clear H1
   replace H:=Option.bind_eq_some_iff.mp H
   obtain ⟨t336,A70,H⟩:=H
   replace H : (some t336) = some r:=H
   have A7:=A_ A70
   clear A70
   obtain rfl:=Option.some.inj H
   go_enter Try.func17,Try.ntmps17
   go_wp2_with (first|((with_reducible refine gate_dst (N:=2) rfl ?_);refine box_event ?hg (N:=2) ?hd (cs:=#[.int .i64 a0_0,.int .i64 a0_1]) (t:=36) ?hr ?_;(case hd=>rfl);(case hg=>rfl);(case hr=>first|(go_simp;done)|(go_simp;rfl));intro gb332 hg w8 hbox hb;have n0_:=A_ (below_step (by repeat (first|(with_reducible first|exact HB.out|apply ba|apply bb|apply bc)|exact HB.out)) hb);have n1_:=A_ (hbox);have n2_:=A_ ((by rw [hg];exact (below_size (by repeat (first|(with_reducible first|exact HB.out|apply ba|apply bb|apply bc)|exact HB.out))) : w.heap.size ≤ gb332));have n3_:=A_ ((by rw [hg];exact (below_size (by repeat (first|(with_reducible first|exact HB.out|apply ba|apply bb|apply bc)|exact HB.out))) : w.heap.size ≤ gb332));clear HB;have HB:=n0_;have BK332:=n1_;have GW332:=n2_;have GE332:=n3_;clear n0_ n1_ n2_ n3_;clear hb hbox hg)|((with_reducible refine gate_dst (N:=3) rfl ?_);refine box_event ?hg (N:=3) ?hd (cs:=#[.int .i64 a1_0,.int .i64 a1_1]) (t:=36) ?hr ?_;(case hd=>rfl);(case hg=>rfl);(case hr=>first|(go_simp;done)|(go_simp;rfl));intro gb333 hg w9 hbox hb;have n0_:=A_ (blk_below (g:=gb332) (o:=.cells #[.int .i64 a0_0,.int .i64 a0_1] 36 (0,0)) (by (with_reducible repeat (first|refine blk_drewN ?_ _|refine blk_drew ?_|refine blk_alloc ?_ _));exact BK332.out) hb);have n1_:=A_ (below_step (by repeat (first|(with_reducible first|exact HB.out|apply ba|apply bb|apply bc|refine below_set ?_ GE332.out)|exact HB.out)) hb);have n2_:=A_ (hbox);have n3_:=A_ ((by rw [hg];exact (below_size (by repeat (first|(with_reducible first|exact HB.out|apply ba|apply bb|apply bc|refine below_set ?_ GE332.out)|exact HB.out))) : w.heap.size ≤ gb333));have n4_:=A_ ((by rw [hg];exact (below_size (by repeat (first|(with_reducible first|exact HB.out|apply ba|apply bb|apply bc|refine below_set ?_ GE332.out)|exact HB.out))) : w.heap.size ≤ gb333));have n5_:=A_ ((by rw [hg];exact Nat.ne_of_lt (blk_lt (g:=gb332) (o:=.cells #[.int .i64 a0_0,.int .i64 a0_1] 36 (0,0)) (by (with_reducible repeat (first|refine blk_drewN ?_ _|refine blk_drew ?_|refine blk_alloc ?_ _));exact BK332.out)) : gb332≠gb333));have n6_:=A_ ((by rw [hg];exact Nat.ne_of_gt (blk_lt (g:=gb332) (o:=.cells #[.int .i64 a0_0,.int .i64 a0_1] 36 (0,0)) (by (with_reducible repeat (first|refine blk_drewN ?_ _|refine blk_drew ?_|refine blk_alloc ?_ _));exact BK332.out)) : gb333≠gb332));clear BK332;clear HB;have BK332:=n0_;have HB:=n1_;have BK333:=n2_;have GW333:=n3_;have GE333:=n4_;have NB332_333:=n5_;have NB333_332:=n6_;clear n0_ n1_ n2_ n3_ n4_ n5_ n6_;clear hb hbox hg;have hnb10:=NB332_333.out;have hnc10:=NB333_332.out;have hcz11_0 : w9.cell? ⟨gb332,0,none⟩ = some (.int .i64 a0_0):=(blk_cell BK332.out 0).trans rfl;have hcz11_1 : w9.cell? ⟨gb332,1,none⟩ = some (.int .i64 a0_1):=(blk_cell BK332.out 1).trans rfl;have hfz11_0:=blk_frozen BK332.out 0;have hfz11_1:=blk_frozen BK332.out 1)|((with_reducible refine gate_callee (f:=42) rfl ?_);refine goesL_ (some 6) rfl rfl Try.func42 (by kernel_rfl) rfl #[.agg #[.int .i64 a0_0,.int .i64 a0_1]] rfl (by (try simp only [List.map_toArray,List.map_cons,List.map_nil]);first|done|rfl|(simp only [List.length_drop,List.length_take];rfl)) ?_;(with_reducible refine (shapesearchref01_Valid.calls k a0_0 a0_1 true _ A3.out).mono ?_);rintro e w12 ⟨rfl,hb⟩;refine ⟨_,rfl,?_⟩;have n0_:=A_ (blk_below (g:=gb332) (o:=.cells #[.int .i64 a0_0,.int .i64 a0_1] 36 (0,0)) (by (with_reducible repeat (first|refine blk_drewN ?_ _|refine blk_drew ?_|refine blk_alloc ?_ _));exact BK332.out) hb);have n1_:=A_ (blk_below (g:=gb333) (o:=.cells #[.int .i64 a1_0,.int .i64 a1_1] 36 (0,0)) (by (with_reducible repeat (first|refine blk_drewN ?_ _|refine blk_drew ?_|refine blk_alloc ?_ _));exact BK333.out) hb);have n2_:=A_ (below_step (by repeat (first|(with_reducible first|exact HB.out|apply ba|apply bb|apply bc|refine below_set ?_ GE332.out|refine below_set ?_ GE333.out)|exact HB.out)) hb);clear BK332;clear BK333;clear HB;have BK332:=n0_;have BK333:=n1_;have HB:=n2_;clear n0_ n1_ n2_;(try clear hb);(try clear hb2);(try clear hk);(try clear hi);have hcz13_0 : w12.cell? ⟨gb333,0,none⟩ = some (.int .i64 a1_0):=(blk_cell BK333.out 0).trans rfl;have hcz13_1 : w12.cell? ⟨gb333,1,none⟩ = some (.int .i64 a1_1):=(blk_cell BK333.out 1).trans rfl;have hfz13_0:=blk_frozen BK333.out 0;have hfz13_1:=blk_frozen BK333.out 1)|(go_at_call 42;(with_reducible refine (shapesearchref01_Valid.calls k a1_0 a1_1 true _ A5.out).mono ?_);rintro e w14 ⟨rfl,hb⟩;have n0_:=A_ (blk_below (g:=gb332) (o:=.cells #[.int .i64 a0_0,.int .i64 a0_1] 36 (0,0)) (by (with_reducible repeat (first|refine blk_drewN ?_ _|refine blk_drew ?_|refine blk_alloc ?_ _));exact BK332.out) hb);have n1_:=A_ (blk_below (g:=gb333) (o:=.cells #[.int .i64 a1_0,.int .i64 a1_1] 36 (0,0)) (by (with_reducible repeat (first|refine blk_drewN ?_ _|refine blk_drew ?_|refine blk_alloc ?_ _));exact BK333.out) hb);have n2_:=A_ (below_step (by repeat (first|(with_reducible first|exact HB.out|apply ba|apply bb|apply bc|refine below_set ?_ GE332.out|refine below_set ?_ GE333.out)|exact HB.out)) hb);clear BK332;clear BK333;clear HB;have BK332:=n0_;have BK333:=n1_;have HB:=n2_;clear n0_ n1_ n2_;(try clear hb);(try clear hb2);(try clear hk);(try clear hi);have hcz15_0 : w14.cell? ⟨gb332,0,none⟩ = some (.int .i64 a0_0):=(blk_cell BK332.out 0).trans rfl;have hcz15_1 : w14.cell? ⟨gb332,1,none⟩ = some (.int .i64 a0_1):=(blk_cell BK332.out 1).trans rfl;have hfz15_0:=blk_frozen BK332.out 0;have hfz15_1:=blk_frozen BK332.out 1;have hcz16_0 : w14.cell? ⟨gb333,0,none⟩ = some (.int .i64 a1_0):=(blk_cell BK333.out 0).trans rfl;have hcz16_1 : w14.cell? ⟨gb333,1,none⟩ = some (.int .i64 a1_1):=(blk_cell BK333.out 1).trans rfl;have hfz16_0:=blk_frozen BK333.out 0;have hfz16_1:=blk_frozen BK333.out 1)|((with_reducible refine gate_callee (f:=43) rfl ?_);refine goesL_ (some 21) rfl rfl Try.func43 (by kernel_rfl) rfl #[.int .i64 a0_0,.int .i64 a0_1,.int .i64 a1_0,.int .i64 a1_1] rfl (by (try simp only [List.map_toArray,List.map_cons,List.map_nil]);first|done|rfl|(simp only [List.length_drop,List.length_take];rfl)) ?_;(with_reducible refine (shapesearchref01_order.calls k a0_0 a0_1 a1_0 a1_1 t336 _ A7.out).mono ?_);rintro e w' ⟨rfl,⟨nd,rfl⟩⟩;refine ⟨_,rfl,?_⟩))
   go_ret
   exact ⟨by first|rfl|(simp [errW_none,errW_some] <;> rfl)|(simp [*,errW_none,errW_some] <;> rfl),by repeat (first|(with_reducible first|exact HB.out|apply ba|apply bb|apply bc|refine below_set ?_ GE332.out|refine below_set ?_ GE333.out)|exact HB.out)⟩
  ·
   replace c6:=Bool.eq_false_iff.mpr c6
   subst c6
   have H1 : (some 0) = some r:=by rw [if_neg (show ¬ (false = true) by decide)] at H;exact H
   clear H
   have H:=H1
   clear H1
   obtain rfl:=Option.some.inj H
   go_enter Try.func17,Try.ntmps17
   go_wp2_with (first|((with_reducible refine gate_dst (N:=2) rfl ?_);refine box_event ?hg (N:=2) ?hd (cs:=#[.int .i64 a0_0,.int .i64 a0_1]) (t:=36) ?hr ?_;(case hd=>rfl);(case hg=>rfl);(case hr=>first|(go_simp;done)|(go_simp;rfl));intro gb332 hg w17 hbox hb;have n0_:=A_ (below_step (by repeat (first|(with_reducible first|exact HB.out|apply ba|apply bb|apply bc)|exact HB.out)) hb);have n1_:=A_ (hbox);have n2_:=A_ ((by rw [hg];exact (below_size (by repeat (first|(with_reducible first|exact HB.out|apply ba|apply bb|apply bc)|exact HB.out))) : w.heap.size ≤ gb332));have n3_:=A_ ((by rw [hg];exact (below_size (by repeat (first|(with_reducible first|exact HB.out|apply ba|apply bb|apply bc)|exact HB.out))) : w.heap.size ≤ gb332));clear HB;have HB:=n0_;have BK332:=n1_;have GW332:=n2_;have GE332:=n3_;clear n0_ n1_ n2_ n3_;clear hb hbox hg)|((with_reducible refine gate_dst (N:=3) rfl ?_);refine box_event ?hg (N:=3) ?hd (cs:=#[.int .i64 a1_0,.int .i64 a1_1]) (t:=36) ?hr ?_;(case hd=>rfl);(case hg=>rfl);(case hr=>first|(go_simp;done)|(go_simp;rfl));intro gb333 hg w18 hbox hb;have n0_:=A_ (blk_below (g:=gb332) (o:=.cells #[.int .i64 a0_0,.int .i64 a0_1] 36 (0,0)) (by (with_reducible repeat (first|refine blk_drewN ?_ _|refine blk_drew ?_|refine blk_alloc ?_ _));exact BK332.out) hb);have n1_:=A_ (below_step (by repeat (first|(with_reducible first|exact HB.out|apply ba|apply bb|apply bc|refine below_set ?_ GE332.out)|exact HB.out)) hb);have n2_:=A_ (hbox);have n3_:=A_ ((by rw [hg];exact (below_size (by repeat (first|(with_reducible first|exact HB.out|apply ba|apply bb|apply bc|refine below_set ?_ GE332.out)|exact HB.out))) : w.heap.size ≤ gb333));have n4_:=A_ ((by rw [hg];exact (below_size (by repeat (first|(with_reducible first|exact HB.out|apply ba|apply bb|apply bc|refine below_set ?_ GE332.out)|exact HB.out))) : w.heap.size ≤ gb333));have n5_:=A_ ((by rw [hg];exact Nat.ne_of_lt (blk_lt (g:=gb332) (o:=.cells #[.int .i64 a0_0,.int .i64 a0_1] 36 (0,0)) (by (with_reducible repeat (first|refine blk_drewN ?_ _|refine blk_drew ?_|refine blk_alloc ?_ _));exact BK332.out)) : gb332≠gb333));have n6_:=A_ ((by rw [hg];exact Nat.ne_of_gt (blk_lt (g:=gb332) (o:=.cells #[.int .i64 a0_0,.int .i64 a0_1] 36 (0,0)) (by (with_reducible repeat (first|refine blk_drewN ?_ _|refine blk_drew ?_|refine blk_alloc ?_ _));exact BK332.out)) : gb333≠gb332));clear BK332;clear HB;have BK332:=n0_;have HB:=n1_;have BK333:=n2_;have GW333:=n3_;have GE333:=n4_;have NB332_333:=n5_;have NB333_332:=n6_;clear n0_ n1_ n2_ n3_ n4_ n5_ n6_;clear hb hbox hg;have hnb19:=NB332_333.out;have hnc19:=NB333_332.out;have hcz20_0 : w18.cell? ⟨gb332,0,none⟩ = some (.int .i64 a0_0):=(blk_cell BK332.out 0).trans rfl;have hcz20_1 : w18.cell? ⟨gb332,1,none⟩ = some (.int .i64 a0_1):=(blk_cell BK332.out 1).trans rfl;have hfz20_0:=blk_frozen BK332.out 0;have hfz20_1:=blk_frozen BK332.out 1)|((with_reducible refine gate_callee (f:=42) rfl ?_);refine goesL_ (some 6) rfl rfl Try.func42 (by kernel_rfl) rfl #[.agg #[.int .i64 a0_0,.int .i64 a0_1]] rfl (by (try simp only [List.map_toArray,List.map_cons,List.map_nil]);first|done|rfl|(simp only [List.length_drop,List.length_take];rfl)) ?_;(with_reducible refine (shapesearchref01_Valid.calls k a0_0 a0_1 true _ A3.out).mono ?_);rintro e w21 ⟨rfl,hb⟩;refine ⟨_,rfl,?_⟩;have n0_:=A_ (blk_below (g:=gb332) (o:=.cells #[.int .i64 a0_0,.int .i64 a0_1] 36 (0,0)) (by (with_reducible repeat (first|refine blk_drewN ?_ _|refine blk_drew ?_|refine blk_alloc ?_ _));exact BK332.out) hb);have n1_:=A_ (blk_below (g:=gb333) (o:=.cells #[.int .i64 a1_0,.int .i64 a1_1] 36 (0,0)) (by (with_reducible repeat (first|refine blk_drewN ?_ _|refine blk_drew ?_|refine blk_alloc ?_ _));exact BK333.out) hb);have n2_:=A_ (below_step (by repeat (first|(with_reducible first|exact HB.out|apply ba|apply bb|apply bc|refine below_set ?_ GE332.out|refine below_set ?_ GE333.out)|exact HB.out)) hb);clear BK332;clear BK333;clear HB;have BK332:=n0_;have BK333:=n1_;have HB:=n2_;clear n0_ n1_ n2_;(try clear hb);(try clear hb2);(try clear hk);(try clear hi);have hcz22_0 : w21.cell? ⟨gb333,0,none⟩ = some (.int .i64 a1_0):=(blk_cell BK333.out 0).trans rfl;have hcz22_1 : w21.cell? ⟨gb333,1,none⟩ = some (.int .i64 a1_1):=(blk_cell BK333.out 1).trans rfl;have hfz22_0:=blk_frozen BK333.out 0;have hfz22_1:=blk_frozen BK333.out 1)|(go_at_call 42;(with_reducible refine (shapesearchref01_Valid.calls k a1_0 a1_1 false _ A5.out).mono ?_);rintro e w23 ⟨rfl,hb⟩;have n0_:=A_ (blk_below (g:=gb332) (o:=.cells #[.int .i64 a0_0,.int .i64 a0_1] 36 (0,0)) (by (with_reducible repeat (first|refine blk_drewN ?_ _|refine blk_drew ?_|refine blk_alloc ?_ _));exact BK332.out) hb);have n1_:=A_ (blk_below (g:=gb333) (o:=.cells #[.int .i64 a1_0,.int .i64 a1_1] 36 (0,0)) (by (with_reducible repeat (first|refine blk_drewN ?_ _|refine blk_drew ?_|refine blk_alloc ?_ _));exact BK333.out) hb);have n2_:=A_ (below_step (by repeat (first|(with_reducible first|exact HB.out|apply ba|apply bb|apply bc|refine below_set ?_ GE332.out|refine below_set ?_ GE333.out)|exact HB.out)) hb);clear BK332;clear BK333;clear HB;have BK332:=n0_;have BK333:=n1_;have HB:=n2_;clear n0_ n1_ n2_;(try clear hb);(try clear hb2);(try clear hk);(try clear hi)))
   go_ret
   exact ⟨by first|rfl|(simp [errW_none,errW_some] <;> rfl)|(simp [*,errW_none,errW_some] <;> rfl),by repeat (first|(with_reducible first|exact HB.out|apply ba|apply bb|apply bc|refine below_set ?_ GE332.out|refine below_set ?_ GE333.out)|exact HB.out)⟩
 ·
  replace c4:=Bool.eq_false_iff.mpr c4
  subst c4
  have H1 : (some 0) = some r:=by rw [if_neg (show ¬ (false = true) by decide)] at H;exact H
  clear H
  have H:=H1
  clear H1
  obtain rfl:=Option.some.inj H
  go_enter Try.func17,Try.ntmps17
  go_wp2_with (first|((with_reducible refine gate_dst (N:=2) rfl ?_);refine box_event ?hg (N:=2) ?hd (cs:=#[.int .i64 a0_0,.int .i64 a0_1]) (t:=36) ?hr ?_;(case hd=>rfl);(case hg=>rfl);(case hr=>first|(go_simp;done)|(go_simp;rfl));intro gb332 hg w24 hbox hb;have n0_:=A_ (below_step (by repeat (first|(with_reducible first|exact HB.out|apply ba|apply bb|apply bc)|exact HB.out)) hb);have n1_:=A_ (hbox);have n2_:=A_ ((by rw [hg];exact (below_size (by repeat (first|(with_reducible first|exact HB.out|apply ba|apply bb|apply bc)|exact HB.out))) : w.heap.size ≤ gb332));have n3_:=A_ ((by rw [hg];exact (below_size (by repeat (first|(with_reducible first|exact HB.out|apply ba|apply bb|apply bc)|exact HB.out))) : w.heap.size ≤ gb332));clear HB;have HB:=n0_;have BK332:=n1_;have GW332:=n2_;have GE332:=n3_;clear n0_ n1_ n2_ n3_;clear hb hbox hg)|((with_reducible refine gate_dst (N:=3) rfl ?_);refine box_event ?hg (N:=3) ?hd (cs:=#[.int .i64 a1_0,.int .i64 a1_1]) (t:=36) ?hr ?_;(case hd=>rfl);(case hg=>rfl);(case hr=>first|(go_simp;done)|(go_simp;rfl));intro gb333 hg w25 hbox hb;have n0_:=A_ (blk_below (g:=gb332) (o:=.cells #[.int .i64 a0_0,.int .i64 a0_1] 36 (0,0)) (by (with_reducible repeat (first|refine blk_drewN ?_ _|refine blk_drew ?_|refine blk_alloc ?_ _));exact BK332.out) hb);have n1_:=A_ (below_step (by repeat (first|(with_reducible first|exact HB.out|apply ba|apply bb|apply bc|refine below_set ?_ GE332.out)|exact HB.out)) hb);have n2_:=A_ (hbox);have n3_:=A_ ((by rw [hg];exact (below_size (by repeat (first|(with_reducible first|exact HB.out|apply ba|apply bb|apply bc|refine below_set ?_ GE332.out)|exact HB.out))) : w.heap.size ≤ gb333));have n4_:=A_ ((by rw [hg];exact (below_size (by repeat (first|(with_reducible first|exact HB.out|apply ba|apply bb|apply bc|refine below_set ?_ GE332.out)|exact HB.out))) : w.heap.size ≤ gb333));have n5_:=A_ ((by rw [hg];exact Nat.ne_of_lt (blk_lt (g:=gb332) (o:=.cells #[.int .i64 a0_0,.int .i64 a0_1] 36 (0,0)) (by (with_reducible repeat (first|refine blk_drewN ?_ _|refine blk_drew ?_|refine blk_alloc ?_ _));exact BK332.out)) : gb332≠gb333));have n6_:=A_ ((by rw [hg];exact Nat.ne_of_gt (blk_lt (g:=gb332) (o:=.cells #[.int .i64 a0_0,.int .i64 a0_1] 36 (0,0)) (by (with_reducible repeat (first|refine blk_drewN ?_ _|refine blk_drew ?_|refine blk_alloc ?_ _));exact BK332.out)) : gb333≠gb332));clear BK332;clear HB;have BK332:=n0_;have HB:=n1_;have BK333:=n2_;have GW333:=n3_;have GE333:=n4_;have NB332_333:=n5_;have NB333_332:=n6_;clear n0_ n1_ n2_ n3_ n4_ n5_ n6_;clear hb hbox hg;have hnb26:=NB332_333.out;have hnc26:=NB333_332.out;have hcz27_0 : w25.cell? ⟨gb332,0,none⟩ = some (.int .i64 a0_0):=(blk_cell BK332.out 0).trans rfl;have hcz27_1 : w25.cell? ⟨gb332,1,none⟩ = some (.int .i64 a0_1):=(blk_cell BK332.out 1).trans rfl;have hfz27_0:=blk_frozen BK332.out 0;have hfz27_1:=blk_frozen BK332.out 1)|((with_reducible refine gate_callee (f:=42) rfl ?_);refine goesL_ (some 6) rfl rfl Try.func42 (by kernel_rfl) rfl #[.agg #[.int .i64 a0_0,.int .i64 a0_1]] rfl (by (try simp only [List.map_toArray,List.map_cons,List.map_nil]);first|done|rfl|(simp only [List.length_drop,List.length_take];rfl)) ?_;(with_reducible refine (shapesearchref01_Valid.calls k a0_0 a0_1 false _ A3.out).mono ?_);rintro e w28 ⟨rfl,hb⟩;refine ⟨_,rfl,?_⟩;have n0_:=A_ (blk_below (g:=gb332) (o:=.cells #[.int .i64 a0_0,.int .i64 a0_1] 36 (0,0)) (by (with_reducible repeat (first|refine blk_drewN ?_ _|refine blk_drew ?_|refine blk_alloc ?_ _));exact BK332.out) hb);have n1_:=A_ (blk_below (g:=gb333) (o:=.cells #[.int .i64 a1_0,.int .i64 a1_1] 36 (0,0)) (by (with_reducible repeat (first|refine blk_drewN ?_ _|refine blk_drew ?_|refine blk_alloc ?_ _));exact BK333.out) hb);have n2_:=A_ (below_step (by repeat (first|(with_reducible first|exact HB.out|apply ba|apply bb|apply bc|refine below_set ?_ GE332.out|refine below_set ?_ GE333.out)|exact HB.out)) hb);clear BK332;clear BK333;clear HB;have BK332:=n0_;have BK333:=n1_;have HB:=n2_;clear n0_ n1_ n2_;(try clear hb);(try clear hb2);(try clear hk);(try clear hi)))
  go_ret
  exact ⟨by first|rfl|(simp [errW_none,errW_some] <;> rfl)|(simp [*,errW_none,errW_some] <;> rfl),by repeat (first|(with_reducible first|exact HB.out|apply ba|apply bb|apply bc|refine below_set ?_ GE332.out|refine below_set ?_ GE333.out)|exact HB.out)⟩

/-! ### shapesearchref01_Less: function 22 -/
def shapesearchref01_Less.f (k : Nat) (a0_0 : Int) (a0_1 : Int) (a1_0 : Int) (a1_1 : Int) : Option (Bool):=(shapesearchref01_Cmp.f k a0_0 a0_1 a1_0 a1_1).bind fun t339=>(some (decide (t339 < 0)))
theorem shapesearchref01_Less.mono : ∀ a0 a1 a2 a3 k,LeO (shapesearchref01_Less.f k a0 a1 a2 a3) (shapesearchref01_Less.f (k + 1) a0 a1 a2 a3):=by
 intro a0 a1 a2 a3 k
 unfold shapesearchref01_Less.f
 repeat' first
   | (with_reducible exact shapesearchref01_Cmp.mono _ _ _ _ _)
   | (with_reducible exact LeO.refl _)
   | (with_reducible exact LeO.none _)
   | (with_reducible refine LeO.ite ?_ ?_)
   | (with_reducible refine LeO.bind ?_ (fun _=>?_))
   | exact shapesearchref01_Cmp.mono _ _ _ _ _
   | exact LeO.none _
   | refine LeO.ite ?_ ?_
   | refine LeO.bind ?_ (fun _=>?_)
set_option maxHeartbeats 8000000 in
set_option maxRecDepth 100000 in
theorem shapesearchref01_Less.calls (k : Nat) (a0_0 : Int) (a0_1 : Int) (a1_0 : Int) (a1_1 : Int) (r : Bool) (w : World) (h : shapesearchref01_Less.f k a0_0 a0_1 a1_0 a1_1 = some r) :
  Calls Try.prog 22 #[.agg #[.int .i64 a0_0,.int .i64 a0_1],.agg #[.int .i64 a1_0,.int .i64 a1_1]] w fun e w'=>e = .returned (.bool r)∧Below w.heap.size w w':=by
 have hu36:=Try.underlying36
 have HB:=A_ (Below.refl w.heap.size w)
 have H : ((shapesearchref01_Cmp.f k a0_0 a0_1 a1_0 a1_1).bind fun t339=>(some (decide (t339 < 0)))) = some r:=h
 clear h
 replace H:=Option.bind_eq_some_iff.mp H
 obtain ⟨t339,A30,H⟩:=H
 replace H : (some (decide (t339 < 0))) = some r:=H
 have A3:=A_ A30
 clear A30
 obtain rfl:=Option.some.inj H
 go_enter Try.func22,Try.ntmps22
 go_wp2_with (first|((with_reducible refine gate_dst (N:=2) rfl ?_);refine box_event ?hg (N:=2) ?hd (cs:=#[.int .i64 a0_0,.int .i64 a0_1]) (t:=36) ?hr ?_;(case hd=>rfl);(case hg=>rfl);(case hr=>first|(go_simp;done)|(go_simp;rfl));intro gb337 hg w4 hbox hb;have n0_:=A_ (below_step (by repeat (first|(with_reducible first|exact HB.out|apply ba|apply bb|apply bc)|exact HB.out)) hb);have n1_:=A_ (hbox);have n2_:=A_ ((by rw [hg];exact (below_size (by repeat (first|(with_reducible first|exact HB.out|apply ba|apply bb|apply bc)|exact HB.out))) : w.heap.size ≤ gb337));have n3_:=A_ ((by rw [hg];exact (below_size (by repeat (first|(with_reducible first|exact HB.out|apply ba|apply bb|apply bc)|exact HB.out))) : w.heap.size ≤ gb337));clear HB;have HB:=n0_;have BK337:=n1_;have GW337:=n2_;have GE337:=n3_;clear n0_ n1_ n2_ n3_;clear hb hbox hg)|((with_reducible refine gate_dst (N:=3) rfl ?_);refine box_event ?hg (N:=3) ?hd (cs:=#[.int .i64 a1_0,.int .i64 a1_1]) (t:=36) ?hr ?_;(case hd=>rfl);(case hg=>rfl);(case hr=>first|(go_simp;done)|(go_simp;rfl));intro gb338 hg w5 hbox hb;have n0_:=A_ (blk_below (g:=gb337) (o:=.cells #[.int .i64 a0_0,.int .i64 a0_1] 36 (0,0)) (by (with_reducible repeat (first|refine blk_drewN ?_ _|refine blk_drew ?_|refine blk_alloc ?_ _));exact BK337.out) hb);have n1_:=A_ (below_step (by repeat (first|(with_reducible first|exact HB.out|apply ba|apply bb|apply bc|refine below_set ?_ GE337.out)|exact HB.out)) hb);have n2_:=A_ (hbox);have n3_:=A_ ((by rw [hg];exact (below_size (by repeat (first|(with_reducible first|exact HB.out|apply ba|apply bb|apply bc|refine below_set ?_ GE337.out)|exact HB.out))) : w.heap.size ≤ gb338));have n4_:=A_ ((by rw [hg];exact (below_size (by repeat (first|(with_reducible first|exact HB.out|apply ba|apply bb|apply bc|refine below_set ?_ GE337.out)|exact HB.out))) : w.heap.size ≤ gb338));have n5_:=A_ ((by rw [hg];exact Nat.ne_of_lt (blk_lt (g:=gb337) (o:=.cells #[.int .i64 a0_0,.int .i64 a0_1] 36 (0,0)) (by (with_reducible repeat (first|refine blk_drewN ?_ _|refine blk_drew ?_|refine blk_alloc ?_ _));exact BK337.out)) : gb337≠gb338));have n6_:=A_ ((by rw [hg];exact Nat.ne_of_gt (blk_lt (g:=gb337) (o:=.cells #[.int .i64 a0_0,.int .i64 a0_1] 36 (0,0)) (by (with_reducible repeat (first|refine blk_drewN ?_ _|refine blk_drew ?_|refine blk_alloc ?_ _));exact BK337.out)) : gb338≠gb337));clear BK337;clear HB;have BK337:=n0_;have HB:=n1_;have BK338:=n2_;have GW338:=n3_;have GE338:=n4_;have NB337_338:=n5_;have NB338_337:=n6_;clear n0_ n1_ n2_ n3_ n4_ n5_ n6_;clear hb hbox hg;have hnb6:=NB337_338.out;have hnc6:=NB338_337.out;have hcz7_0 : w5.cell? ⟨gb337,0,none⟩ = some (.int .i64 a0_0):=(blk_cell BK337.out 0).trans rfl;have hcz7_1 : w5.cell? ⟨gb337,1,none⟩ = some (.int .i64 a0_1):=(blk_cell BK337.out 1).trans rfl;have hfz7_0:=blk_frozen BK337.out 0;have hfz7_1:=blk_frozen BK337.out 1;have hcz8_0 : w5.cell? ⟨gb338,0,none⟩ = some (.int .i64 a1_0):=(blk_cell BK338.out 0).trans rfl;have hcz8_1 : w5.cell? ⟨gb338,1,none⟩ = some (.int .i64 a1_1):=(blk_cell BK338.out 1).trans rfl;have hfz8_0:=blk_frozen BK338.out 0;have hfz8_1:=blk_frozen BK338.out 1)|((with_reducible refine gate_callee (f:=17) rfl ?_);refine goesL_ (some 7) rfl rfl Try.func17 (by kernel_rfl) rfl #[.agg #[.int .i64 a0_0,.int .i64 a0_1],.agg #[.int .i64 a1_0,.int .i64 a1_1]] rfl (by (try simp only [List.map_toArray,List.map_cons,List.map_nil]);first|done|rfl|(simp only [List.length_drop,List.length_take];rfl)) ?_;(with_reducible refine (shapesearchref01_Cmp.calls k a0_0 a0_1 a1_0 a1_1 t339 _ A3.out).mono ?_);rintro e w9 ⟨rfl,hb⟩;refine ⟨_,rfl,?_⟩;have n0_:=A_ (blk_below (g:=gb337) (o:=.cells #[.int .i64 a0_0,.int .i64 a0_1] 36 (0,0)) (by (with_reducible repeat (first|refine blk_drewN ?_ _|refine blk_drew ?_|refine blk_alloc ?_ _));exact BK337.out) hb);have n1_:=A_ (blk_below (g:=gb338) (o:=.cells #[.int .i64 a1_0,.int .i64 a1_1] 36 (0,0)) (by (with_reducible repeat (first|refine blk_drewN ?_ _|refine blk_drew ?_|refine blk_alloc ?_ _));exact BK338.out) hb);have n2_:=A_ (below_step (by repeat (first|(with_reducible first|exact HB.out|apply ba|apply bb|apply bc|refine below_set ?_ GE337.out|refine below_set ?_ GE338.out)|exact HB.out)) hb);clear BK337;clear BK338;clear HB;have BK337:=n0_;have BK338:=n1_;have HB:=n2_;clear n0_ n1_ n2_;(try clear hb);(try clear hb2);(try clear hk);(try clear hi)))
 go_ret
 exact ⟨by first|rfl|(simp [errW_none,errW_some] <;> rfl)|(simp [*,errW_none,errW_some] <;> rfl),by repeat (first|(with_reducible first|exact HB.out|apply ba|apply bb|apply bc|refine below_set ?_ GE337.out|refine below_set ?_ GE338.out)|exact HB.out)⟩

end Go.Proofs.Ytodipcfbgnljeaa.PChannelsGreatest
