/- This file proves, function by function, what the Go functions that one law uses compute; most of it was printed by a program (wip/tools of this session, over the kit's print). -/
import Derived.Test.YtodipcfbgnljeaaPChannelsGreatestx0
import Derived.Test.YtodipcfbgnljeaaPChannelsGreatestx3
namespace Go.Proofs.Ytodipcfbgnljeaa.PChannelsGreatest
open Go.RowKit Go.Proofs.YtodipcfbgnljeaaW.PrintWords Go.Proofs.YtodipcfbgnljeaaW.PrintLast Go.Proofs.YtodipcfbgnljeaaW.PrintMore
attribute [local go_sem] max2_int min2_int max_two min_two max_three min_three max_four min_four   -- for this text's walks alone
set_option linter.unusedVariables false
set_option linter.unusedSimpArgs false

/-! ### normal_variance: function 70 -/
def normal_variance.l0 : Nat → List Int → Int → Int → Int → Int → Int → Option (Int)
 | 0,_,_,_,_,_,_=>none
 | k + 1,x9,x10,x11,x147000,x147001,x147002=>if x11 < x10 then (if 0 ≤ x11 then (if x11 < (x9.length : Int) then (normal_variance.l0 k x9 x10 (wrap64 (x11 + 1)) x147000 (wrap64 (x147001 + (rd x9 x11))) (wrap64 (x147002 + (wrap64 ((rd x9 x11) * (rd x9 x11)))))) else (none)) else (none)) else ((window_Variance.f x147000 x147001 x147002).bind fun t148=>(some t148))
def normal_variance.f (k : Nat) (l0 : List Int) : Option (Int):=normal_variance.l0 k l0 (l0.length : Int) 0 (l0.length : Int) 0 0
theorem normal_variance.mono_l : ∀ k,(∀ y0 y1 y2 y3 y4 y5,LeO (normal_variance.l0 k y0 y1 y2 y3 y4 y5) (normal_variance.l0 (k + 1) y0 y1 y2 y3 y4 y5))
 | 0=>fun _ _ _ _ _ _ r h=>by simp [normal_variance.l0] at h
 | k + 1=>by
  have ih0:=normal_variance.mono_l k
  ·
   intro y0 y1 y2 y3 y4 y5
   unfold normal_variance.l0
   repeat' first
   | (with_reducible exact ih0 _ _ _ _ _ _)
   | (with_reducible exact LeO.refl _)
   | (with_reducible exact LeO.none _)
   | (with_reducible refine LeO.ite ?_ ?_)
   | (with_reducible refine LeO.bind ?_ (fun _=>?_))
   | exact ih0 _ _ _ _ _ _
   | exact LeO.none _
   | refine LeO.ite ?_ ?_
   | refine LeO.bind ?_ (fun _=>?_)
theorem normal_variance.mono : ∀ a0 k,LeO (normal_variance.f k a0) (normal_variance.f (k + 1) a0):=by
 intro a0 k
 have ih0:=normal_variance.mono_l k
 unfold normal_variance.f
 repeat' first
   | (with_reducible exact ih0 _ _ _ _ _ _)
   | (with_reducible exact LeO.refl _)
   | (with_reducible exact LeO.none _)
   | (with_reducible refine LeO.ite ?_ ?_)
   | (with_reducible refine LeO.bind ?_ (fun _=>?_))
   | exact ih0 _ _ _ _ _ _
   | exact LeO.none _
   | refine LeO.ite ?_ ?_
   | refine LeO.bind ?_ (fun _=>?_)
set_option maxHeartbeats 8000000 in
set_option maxRecDepth 100000 in
theorem normal_variance.calls (k : Nat) (A0 : Option Addr) (c0 : Nat) (l0 : List Int) (r : Int) (w : World) (hr0 : Kd.C (Kd.int .i64) w A0 l0.length l0) (hc0 : l0.length ≤ c0) (h : normal_variance.f k l0 = some r) :
  Calls Try.prog 70 #[.slice A0 l0.length c0] w fun e w'=>e = .returned (.int .i64 r)∧Below w.heap.size w w':=by
 have hu88:=Try.underlying88
 have HR0:=A_ hr0
 have HC0:=A_ hc0
 clear hr0 hc0
 have HB:=A_ (Below.refl w.heap.size w)
 have H : (normal_variance.l0 k l0 (l0.length : Int) 0 (l0.length : Int) 0 0) = some r:=h
 clear h
 have H':=A_ H
 clear H
 go_enter Try.func70,Try.ntmps70
 go_wp2_with (first|((with_reducible refine gate_dst (N:=3) rfl ?_);refine box_event ?hg (N:=3) ?hd (cs:=#[.int .i64 0,.int .i64 0,.int .i64 0]) (t:=88) ?hr ?_;(case hd=>rfl);(case hg=>rfl);(case hr=>first|(go_simp;done)|(go_simp;rfl));intro gb146 hg w2 hbox hb;have n0_:=A_ (below_step (by repeat (first|(with_reducible first|exact HB.out|apply ba|apply bb|apply bc)|exact HB.out)) hb);have n1_:=A_ (hbox);have n2_:=A_ ((by rw [hg];exact (below_size (by repeat (first|(with_reducible first|exact HB.out|apply ba|apply bb|apply bc)|exact HB.out))) : w.heap.size ≤ gb146));have n3_:=A_ ((by rw [hg];exact (below_size (by repeat (first|(with_reducible first|exact HB.out|apply ba|apply bb|apply bc)|exact HB.out))) : w.heap.size ≤ gb146));clear HB;have HB:=n0_;have BK146:=n1_;have GW146:=n2_;have GE146:=n3_;clear n0_ n1_ n2_ n3_;clear hb hbox hg;have hcz3_0 : w2.cell? ⟨gb146,0,none⟩ = some (.int .i64 0):=(blk_cell BK146.out 0).trans rfl;have hcz3_1 : w2.cell? ⟨gb146,1,none⟩ = some (.int .i64 0):=(blk_cell BK146.out 1).trans rfl;have hcz3_2 : w2.cell? ⟨gb146,2,none⟩ = some (.int .i64 0):=(blk_cell BK146.out 2).trans rfl;have hfz3_0:=blk_frozen BK146.out 0;have hfz3_1:=blk_frozen BK146.out 1;have hfz3_2:=blk_frozen BK146.out 2))
 go_loopg [11] k (fun kq v11 w'=>∃ (x11_1 : Int) (x147001_1 : Int) (x147002_1 : Int),v11 = .int .i64 x11_1∧Aside0 (normal_variance.l0 kq l0 (l0.length : Int) x11_1 (l0.length : Int) x147001_1 x147002_1 = some r)∧Aside0 (kq ≤ k)∧Aside0 (w'.heap[gb146]? = some (.cells #[.int .i64 (l0.length : Int),.int .i64 x147001_1,.int .i64 x147002_1] 88 (0,0)))∧Aside0 (Below w.heap.size w w'))
 case atStart=>exact ⟨(0),(0),(0),(by first|rfl|(simp;done)|(simp [*];done)),H',⟨Nat.le_refl _⟩,⟨by (with_reducible repeat (first|refine blk_drewN ?_ _|refine blk_drew ?_|refine blk_alloc ?_ _));refine blk_put (cs:=#[.int .i64 (l0.length : Int),.int .i64 0,.int .i64 0]) ?_ 2 _ rfl;(with_reducible repeat (first|refine blk_drewN ?_ _|refine blk_drew ?_|refine blk_alloc ?_ _));refine blk_put (cs:=#[.int .i64 (l0.length : Int),.int .i64 0,.int .i64 0]) ?_ 1 _ rfl;(with_reducible repeat (first|refine blk_drewN ?_ _|refine blk_drew ?_|refine blk_alloc ?_ _));refine blk_put (cs:=#[.int .i64 0,.int .i64 0,.int .i64 0]) ?_ 0 _ rfl;(with_reducible repeat (first|refine blk_drewN ?_ _|refine blk_drew ?_|refine blk_alloc ?_ _));exact BK146.out⟩,⟨by repeat (first|(with_reducible first|exact HB.out|apply ba|apply bb|apply bc|refine below_set ?_ GE146.out)|exact HB.out)⟩⟩
 case round =>
  clear H'
  try clear p2
  try clear hcz3_0
  try clear hcz3_1
  try clear hcz3_2
  try clear hfz3_0
  try clear hfz3_1
  try clear hfz3_2
  obtain ⟨x11_1,x147001_1,x147002_1,rfl,HA,HK1,BK146,HB⟩:=hrel
  cases gk with
  | zero=>exact absurd HA.out (by simp [normal_variance.l0])
  | succ k1 =>
   have H:=HA.out
   clear HA
   simp only [normal_variance.l0] at H
   by_cases c4 : x11_1 < (l0.length : Int)
   ·
    rw [if_pos c4] at H
    have c4b0 : decide (x11_1 < (l0.length : Int)) = true:=decide_eq_true c4
    clear c4
    by_cases c5 : 0 ≤ x11_1
    ·
     rw [if_pos c5] at H
     have c5b0 : decide (0 ≤ x11_1) = true:=decide_eq_true c5
     clear c5
     by_cases c6 : x11_1 < (l0.length : Int)
     ·
      rw [if_pos c6] at H
      have c6b0 : decide (x11_1 < (l0.length : Int)) = true:=decide_eq_true c6
      clear c6
      have H':=A_ H
      clear H
      have p147 : 0 ≤ (x11_1 : Int):=of_decide_eq_true (by first|(with_reducible assumption)|assumption)
      have q147 : x11_1 < (l0.length : Int):=of_decide_eq_true (by first|(with_reducible assumption)|assumption)
      obtain ⟨ad147,e147,hx147_0⟩:=Kd.at_int HR0.out x11_1 p147 q147
      cases e147
      replace hx147_0:=(HB.out.cell (World.block_lt_of_cell? w _ hx147_0)).trans hx147_0
      replace p147:=eq_true p147
      replace q147:=eq_true q147
      have hcz7_0 : wr.cell? ⟨gb146,0,none⟩ = some (.int .i64 (l0.length : Int)):=(blk_cell BK146.out 0).trans rfl
      have hcz7_1 : wr.cell? ⟨gb146,1,none⟩ = some (.int .i64 x147001_1):=(blk_cell BK146.out 1).trans rfl
      have hcz7_2 : wr.cell? ⟨gb146,2,none⟩ = some (.int .i64 x147002_1):=(blk_cell BK146.out 2).trans rfl
      have hfz7_0:=blk_frozen BK146.out 0
      have hfz7_1:=blk_frozen BK146.out 1
      have hfz7_2:=blk_frozen BK146.out 2
      go_wp2
      go_roundg k1
      case measure=>have:=HK1.out;omega
      case rel=>exact ⟨(wrap64 (x11_1 + 1)),(wrap64 (x147001_1 + (rd l0 x11_1))),(wrap64 (x147002_1 + (wrap64 ((rd l0 x11_1) * (rd l0 x11_1))))),(by first|rfl|(simp;done)|(simp [*];done)),H',⟨by have:=HK1.out;omega⟩,⟨by (with_reducible repeat (first|refine blk_drewN ?_ _|refine blk_drew ?_|refine blk_alloc ?_ _));refine blk_put (cs:=#[.int .i64 (l0.length : Int),.int .i64 (wrap64 (x147001_1 + (rd l0 x11_1))),.int .i64 x147002_1]) ?_ 2 _ rfl;(with_reducible repeat (first|refine blk_drewN ?_ _|refine blk_drew ?_|refine blk_alloc ?_ _));refine blk_put (cs:=#[.int .i64 (l0.length : Int),.int .i64 x147001_1,.int .i64 x147002_1]) ?_ 1 _ rfl;(with_reducible repeat (first|refine blk_drewN ?_ _|refine blk_drew ?_|refine blk_alloc ?_ _));exact BK146.out⟩,⟨by repeat (first|(with_reducible first|exact HB.out|apply ba|apply bb|apply bc|refine below_set ?_ GE146.out)|exact HB.out)⟩⟩
     ·
      rw [if_neg c6] at H
      exact absurd H (by simp)
    ·
     rw [if_neg c5] at H
     exact absurd H (by simp)
   ·
    rw [if_neg c4] at H
    have c4b0 : decide (x11_1 < (l0.length : Int)) = false:=decide_eq_false c4
    clear c4
    replace H:=Option.bind_eq_some_iff.mp H
    obtain ⟨t148,A80,H⟩:=H
    replace H : (some t148) = some r:=H
    have A8:=A_ A80
    clear A80
    obtain rfl:=Option.some.inj H
    have hcz9_0 : wr.cell? ⟨gb146,0,none⟩ = some (.int .i64 (l0.length : Int)):=(blk_cell BK146.out 0).trans rfl
    have hcz9_1 : wr.cell? ⟨gb146,1,none⟩ = some (.int .i64 x147001_1):=(blk_cell BK146.out 1).trans rfl
    have hcz9_2 : wr.cell? ⟨gb146,2,none⟩ = some (.int .i64 x147002_1):=(blk_cell BK146.out 2).trans rfl
    have hfz9_0:=blk_frozen BK146.out 0
    have hfz9_1:=blk_frozen BK146.out 1
    have hfz9_2:=blk_frozen BK146.out 2
    go_wp2_with (first|((with_reducible refine gate_callee (f:=78) rfl ?_);refine goesL_ (some 29) rfl rfl Try.func78 (by kernel_rfl) rfl #[.agg #[.int .i64 (l0.length : Int),.int .i64 x147001_1,.int .i64 x147002_1]] rfl (by (try simp only [List.map_toArray,List.map_cons,List.map_nil]);first|done|rfl|(simp only [List.length_drop,List.length_take];rfl)) ?_;(with_reducible refine (window_Variance.calls (l0.length : Int) x147001_1 x147002_1 t148 _ A8.out).mono ?_);rintro e w10 ⟨rfl,hb⟩;refine ⟨_,rfl,?_⟩;have n0_:=A_ (blk_below (g:=gb146) (o:=.cells #[.int .i64 (l0.length : Int),.int .i64 x147001_1,.int .i64 x147002_1] 88 (0,0)) (by (with_reducible repeat (first|refine blk_drewN ?_ _|refine blk_drew ?_|refine blk_alloc ?_ _));exact BK146.out) hb);have n1_:=A_ (below_step (by repeat (first|(with_reducible first|exact HB.out|apply ba|apply bb|apply bc|refine below_set ?_ GE146.out)|exact HB.out)) hb);clear BK146;clear HB;have BK146:=n0_;have HB:=n1_;clear n0_ n1_;(try clear hb);(try clear hb2);(try clear hk);(try clear hi)))
    go_ret
    exact ⟨by first|rfl|(simp [errW_none,errW_some] <;> rfl)|(simp [*,errW_none,errW_some] <;> rfl),by repeat (first|(with_reducible first|exact HB.out|apply ba|apply bb|apply bc|refine below_set ?_ GE146.out)|exact HB.out)⟩

/-! ### ratio_divisor: function 79 -/
def ratio_divisor.l0 : Nat → Int → Int → Option (Int)
 | 0,_,_=>none
 | k + 1,x0,x1=>if x1 = 0 then (some x0) else (ratio_divisor.l0 k x1 (Int.tmod x0 x1))
def ratio_divisor.f (k : Nat) (a0 : Int) (a1 : Int) : Option (Int):=ratio_divisor.l0 k a0 a1
theorem ratio_divisor.mono_l : ∀ k,(∀ y0 y1,LeO (ratio_divisor.l0 k y0 y1) (ratio_divisor.l0 (k + 1) y0 y1))
 | 0=>fun _ _ r h=>by simp [ratio_divisor.l0] at h
 | k + 1=>by
  have ih0:=ratio_divisor.mono_l k
  ·
   intro y0 y1
   unfold ratio_divisor.l0
   repeat' first
   | (with_reducible exact ih0 _ _)
   | (with_reducible exact LeO.refl _)
   | (with_reducible exact LeO.none _)
   | (with_reducible refine LeO.ite ?_ ?_)
   | (with_reducible refine LeO.bind ?_ (fun _=>?_))
   | exact ih0 _ _
   | exact LeO.none _
   | refine LeO.ite ?_ ?_
   | refine LeO.bind ?_ (fun _=>?_)
theorem ratio_divisor.mono : ∀ a0 a1 k,LeO (ratio_divisor.f k a0 a1) (ratio_divisor.f (k + 1) a0 a1):=by
 intro a0 a1 k
 have ih0:=ratio_divisor.mono_l k
 unfold ratio_divisor.f
 repeat' first
   | (with_reducible exact ih0 _ _)
   | (with_reducible exact LeO.refl _)
   | (with_reducible exact LeO.none _)
   | (with_reducible refine LeO.ite ?_ ?_)
   | (with_reducible refine LeO.bind ?_ (fun _=>?_))
   | exact ih0 _ _
   | exact LeO.none _
   | refine LeO.ite ?_ ?_
   | refine LeO.bind ?_ (fun _=>?_)
set_option maxHeartbeats 8000000 in
set_option maxRecDepth 100000 in
theorem ratio_divisor.calls (k : Nat) (a0 : Int) (a1 : Int) (r : Int) (w : World) (h : ratio_divisor.f k a0 a1 = some r) :
  Calls Try.prog 79 #[.int .i64 a0,.int .i64 a1] w fun e w'=>e = .returned (.int .i64 r)∧Drawn0 w w':=by
 have H : (ratio_divisor.l0 k a0 a1) = some r:=h
 clear h
 have H':=A_ H
 clear H
 go_enter Try.func79,Try.ntmps79
 go_wp2
 repeat (go_quiet (fail);try go_wp2)
 go_loopg [0,1] k (fun kq v0 v1 w'=>∃ (x0_1 : Int) (x1_1 : Int),v0 = .int .i64 x0_1∧v1 = .int .i64 x1_1∧Aside0 (ratio_divisor.l0 kq x0_1 x1_1 = some r)∧Aside0 (kq ≤ k)∧Drawn0 w w')
 case atStart=>exact ⟨(a0),(a1),(by first|rfl|(simp;done)|(simp [*];done)),(by first|rfl|(simp;done)|(simp [*];done)),H',⟨Nat.le_refl _⟩,by repeat (first|exact Drawn0.refl _|apply Drawn0.step)⟩
 case round =>
  clear H'
  try clear p2
  obtain ⟨x0_1,x1_1,rfl,rfl,HA,HK1,⟨m1,rfl⟩⟩:=hrel
  cases gk with
  | zero=>exact absurd HA.out (by simp [ratio_divisor.l0])
  | succ k1 =>
   have H:=HA.out
   clear HA
   simp only [ratio_divisor.l0] at H
   by_cases c3 : x1_1 = 0
   ·
    rw [if_pos c3] at H
    have c3b0 : (x1_1 == 0) = true:=beq_iff_eq.mpr c3
    have c3b1 : (x1_1 != 0) = false:=bne_eq_false_iff_eq.mpr c3
    clear c3
    obtain rfl:=Option.some.inj H
    go_wp2
    repeat (go_quiet (fail);try go_wp2)
    go_ret
    exact ⟨by first|rfl|(simp;done)|(simp [*];done),by repeat (first|exact Drawn0.refl _|apply Drawn0.step)⟩
   ·
    rw [if_neg c3] at H
    have c3b0 : (x1_1 == 0) = false:=beq_eq_false_iff_ne.mpr c3
    have c3b1 : (x1_1 != 0) = true:=bne_iff_ne.mpr c3
    have H':=A_ H
    clear H
    go_wp2
    repeat (go_quiet (fail);try go_wp2)
    go_roundg k1
    case measure=>have:=HK1.out;omega
    case rel=>exact ⟨(x1_1),(Int.tmod x0_1 x1_1),(by first|rfl|(simp;done)|(simp [*];done)),(by first|rfl|(simp;done)|(simp [*];done)),H',⟨by have:=HK1.out;omega⟩,by repeat (first|exact Drawn0.refl _|apply Drawn0.step)⟩

/-! ### ratio_within: function 80 -/
def ratio_within.f (a0_0 : Int) (a0_1 : Int) : Option (Bool):=if a0_0 ≥ 0 then (if a0_0 ≤ 2305843009213693952 then (if a0_1 ≥ 1 then (some (decide (a0_1 ≤ 1152921504606846976))) else (some false)) else (some false)) else (some false)
set_option maxHeartbeats 8000000 in
set_option maxRecDepth 100000 in
theorem ratio_within.calls (a0_0 : Int) (a0_1 : Int) (r : Bool) (w : World) (h : ratio_within.f a0_0 a0_1 = some r) :
  Calls Try.prog 80 #[.agg #[.int .i64 a0_0,.int .i64 a0_1]] w fun e w'=>e = .returned (.bool r)∧Below w.heap.size w w':=by
 have hu36:=Try.underlying36
 have HB:=A_ (Below.refl w.heap.size w)
 have H : (if a0_0 ≥ 0 then (if a0_0 ≤ 2305843009213693952 then (if a0_1 ≥ 1 then (some (decide (a0_1 ≤ 1152921504606846976))) else (some false)) else (some false)) else (some false)) = some r:=h
 clear h
 by_cases c2 : a0_0 ≥ 0
 ·
  rw [if_pos c2] at H
  have c2b0 : decide (0 ≤ a0_0) = true:=decide_eq_true c2
  clear c2
  by_cases c3 : a0_0 ≤ 2305843009213693952
  ·
   rw [if_pos c3] at H
   have c3b0 : decide (a0_0 ≤ 2305843009213693952) = true:=decide_eq_true c3
   clear c3
   by_cases c4 : a0_1 ≥ 1
   ·
    rw [if_pos c4] at H
    have c4b0 : decide (1 ≤ a0_1) = true:=decide_eq_true c4
    clear c4
    obtain rfl:=Option.some.inj H
    go_enter Try.func80,Try.ntmps80
    go_wp2_with (first|((with_reducible refine gate_dst (N:=1) rfl ?_);refine box_event ?hg (N:=1) ?hd (cs:=#[.int .i64 a0_0,.int .i64 a0_1]) (t:=36) ?hr ?_;(case hd=>rfl);(case hg=>rfl);(case hr=>first|(go_simp;done)|(go_simp;rfl));intro gb149 hg w5 hbox hb;have n0_:=A_ (below_step (by repeat (first|(with_reducible first|exact HB.out|apply ba|apply bb|apply bc)|exact HB.out)) hb);have n1_:=A_ (hbox);have n2_:=A_ ((by rw [hg];exact (below_size (by repeat (first|(with_reducible first|exact HB.out|apply ba|apply bb|apply bc)|exact HB.out))) : w.heap.size ≤ gb149));have n3_:=A_ ((by rw [hg];exact (below_size (by repeat (first|(with_reducible first|exact HB.out|apply ba|apply bb|apply bc)|exact HB.out))) : w.heap.size ≤ gb149));clear HB;have HB:=n0_;have BK149:=n1_;have GW149:=n2_;have GE149:=n3_;clear n0_ n1_ n2_ n3_;clear hb hbox hg;have hcz6_0 : w5.cell? ⟨gb149,0,none⟩ = some (.int .i64 a0_0):=(blk_cell BK149.out 0).trans rfl;have hcz6_1 : w5.cell? ⟨gb149,1,none⟩ = some (.int .i64 a0_1):=(blk_cell BK149.out 1).trans rfl;have hfz6_0:=blk_frozen BK149.out 0;have hfz6_1:=blk_frozen BK149.out 1))
    go_ret
    exact ⟨by first|rfl|(simp [errW_none,errW_some] <;> rfl)|(simp [*,errW_none,errW_some] <;> rfl),by repeat (first|(with_reducible first|exact HB.out|apply ba|apply bb|apply bc|refine below_set ?_ GE149.out)|exact HB.out)⟩
   ·
    rw [if_neg c4] at H
    have c4b0 : decide (1 ≤ a0_1) = false:=decide_eq_false c4
    clear c4
    obtain rfl:=Option.some.inj H
    go_enter Try.func80,Try.ntmps80
    go_wp2_with (first|((with_reducible refine gate_dst (N:=1) rfl ?_);refine box_event ?hg (N:=1) ?hd (cs:=#[.int .i64 a0_0,.int .i64 a0_1]) (t:=36) ?hr ?_;(case hd=>rfl);(case hg=>rfl);(case hr=>first|(go_simp;done)|(go_simp;rfl));intro gb149 hg w7 hbox hb;have n0_:=A_ (below_step (by repeat (first|(with_reducible first|exact HB.out|apply ba|apply bb|apply bc)|exact HB.out)) hb);have n1_:=A_ (hbox);have n2_:=A_ ((by rw [hg];exact (below_size (by repeat (first|(with_reducible first|exact HB.out|apply ba|apply bb|apply bc)|exact HB.out))) : w.heap.size ≤ gb149));have n3_:=A_ ((by rw [hg];exact (below_size (by repeat (first|(with_reducible first|exact HB.out|apply ba|apply bb|apply bc)|exact HB.out))) : w.heap.size ≤ gb149));clear HB;have HB:=n0_;have BK149:=n1_;have GW149:=n2_;have GE149:=n3_;clear n0_ n1_ n2_ n3_;clear hb hbox hg;have hcz8_0 : w7.cell? ⟨gb149,0,none⟩ = some (.int .i64 a0_0):=(blk_cell BK149.out 0).trans rfl;have hcz8_1 : w7.cell? ⟨gb149,1,none⟩ = some (.int .i64 a0_1):=(blk_cell BK149.out 1).trans rfl;have hfz8_0:=blk_frozen BK149.out 0;have hfz8_1:=blk_frozen BK149.out 1))
    go_ret
    exact ⟨by first|rfl|(simp [errW_none,errW_some] <;> rfl)|(simp [*,errW_none,errW_some] <;> rfl),by repeat (first|(with_reducible first|exact HB.out|apply ba|apply bb|apply bc|refine below_set ?_ GE149.out)|exact HB.out)⟩
  ·
   rw [if_neg c3] at H
   have c3b0 : decide (a0_0 ≤ 2305843009213693952) = false:=decide_eq_false c3
   clear c3
   obtain rfl:=Option.some.inj H
   go_enter Try.func80,Try.ntmps80
   go_wp2_with (first|((with_reducible refine gate_dst (N:=1) rfl ?_);refine box_event ?hg (N:=1) ?hd (cs:=#[.int .i64 a0_0,.int .i64 a0_1]) (t:=36) ?hr ?_;(case hd=>rfl);(case hg=>rfl);(case hr=>first|(go_simp;done)|(go_simp;rfl));intro gb149 hg w9 hbox hb;have n0_:=A_ (below_step (by repeat (first|(with_reducible first|exact HB.out|apply ba|apply bb|apply bc)|exact HB.out)) hb);have n1_:=A_ (hbox);have n2_:=A_ ((by rw [hg];exact (below_size (by repeat (first|(with_reducible first|exact HB.out|apply ba|apply bb|apply bc)|exact HB.out))) : w.heap.size ≤ gb149));have n3_:=A_ ((by rw [hg];exact (below_size (by repeat (first|(with_reducible first|exact HB.out|apply ba|apply bb|apply bc)|exact HB.out))) : w.heap.size ≤ gb149));clear HB;have HB:=n0_;have BK149:=n1_;have GW149:=n2_;have GE149:=n3_;clear n0_ n1_ n2_ n3_;clear hb hbox hg;have hcz10_0 : w9.cell? ⟨gb149,0,none⟩ = some (.int .i64 a0_0):=(blk_cell BK149.out 0).trans rfl;have hcz10_1 : w9.cell? ⟨gb149,1,none⟩ = some (.int .i64 a0_1):=(blk_cell BK149.out 1).trans rfl;have hfz10_0:=blk_frozen BK149.out 0;have hfz10_1:=blk_frozen BK149.out 1))
   go_ret
   exact ⟨by first|rfl|(simp [errW_none,errW_some] <;> rfl)|(simp [*,errW_none,errW_some] <;> rfl),by repeat (first|(with_reducible first|exact HB.out|apply ba|apply bb|apply bc|refine below_set ?_ GE149.out)|exact HB.out)⟩
 ·
  rw [if_neg c2] at H
  have c2b0 : decide (0 ≤ a0_0) = false:=decide_eq_false c2
  clear c2
  obtain rfl:=Option.some.inj H
  go_enter Try.func80,Try.ntmps80
  go_wp2_with (first|((with_reducible refine gate_dst (N:=1) rfl ?_);refine box_event ?hg (N:=1) ?hd (cs:=#[.int .i64 a0_0,.int .i64 a0_1]) (t:=36) ?hr ?_;(case hd=>rfl);(case hg=>rfl);(case hr=>first|(go_simp;done)|(go_simp;rfl));intro gb149 hg w11 hbox hb;have n0_:=A_ (below_step (by repeat (first|(with_reducible first|exact HB.out|apply ba|apply bb|apply bc)|exact HB.out)) hb);have n1_:=A_ (hbox);have n2_:=A_ ((by rw [hg];exact (below_size (by repeat (first|(with_reducible first|exact HB.out|apply ba|apply bb|apply bc)|exact HB.out))) : w.heap.size ≤ gb149));have n3_:=A_ ((by rw [hg];exact (below_size (by repeat (first|(with_reducible first|exact HB.out|apply ba|apply bb|apply bc)|exact HB.out))) : w.heap.size ≤ gb149));clear HB;have HB:=n0_;have BK149:=n1_;have GW149:=n2_;have GE149:=n3_;clear n0_ n1_ n2_ n3_;clear hb hbox hg;have hcz12_0 : w11.cell? ⟨gb149,0,none⟩ = some (.int .i64 a0_0):=(blk_cell BK149.out 0).trans rfl;have hcz12_1 : w11.cell? ⟨gb149,1,none⟩ = some (.int .i64 a0_1):=(blk_cell BK149.out 1).trans rfl;have hfz12_0:=blk_frozen BK149.out 0;have hfz12_1:=blk_frozen BK149.out 1))
  go_ret
  exact ⟨by first|rfl|(simp [errW_none,errW_some] <;> rfl)|(simp [*,errW_none,errW_some] <;> rfl),by repeat (first|(with_reducible first|exact HB.out|apply ba|apply bb|apply bc|refine below_set ?_ GE149.out)|exact HB.out)⟩

/-! ### ratio_Make: function 71 -/
def ratio_Make.j0 : Nat → Int → Int → Bool → Option (Int × Int × Int)
 | 0,_,_,_=>none
 | k + 1,x0,x1,x13=>if x13 = true then (some (0,0,1)) else ((ratio_divisor.f k x0 x1).bind fun t151=>(if t151 = 0 then (none) else ((ratio_within.f (wrap64 (Int.tdiv x0 t151)) (wrap64 (Int.tdiv x1 t151))).bind fun t153=>(if t153 = true then (some (wrap64 (Int.tdiv x0 t151),wrap64 (Int.tdiv x1 t151),0)) else (some (0,0,1))))))
def ratio_Make.f (k : Nat) (a0 : Int) (a1 : Int) : Option (Int × Int × Int):=if a0 < 0 then (ratio_Make.j0 k a0 a1 true) else (ratio_Make.j0 k a0 a1 (decide (a1 < 1)))
theorem ratio_Make.mono_l : ∀ k,(∀ y0 y1 y2,LeO (ratio_Make.j0 k y0 y1 y2) (ratio_Make.j0 (k + 1) y0 y1 y2))
 | 0=>fun _ _ _ r h=>by simp [ratio_Make.j0] at h
 | k + 1=>by
  have ih0:=ratio_Make.mono_l k
  ·
   intro y0 y1 y2
   unfold ratio_Make.j0
   repeat' first
   | (with_reducible exact ih0 _ _ _)
   | (with_reducible exact ratio_divisor.mono _ _ _)
   | (with_reducible exact LeO.refl _)
   | (with_reducible exact LeO.none _)
   | (with_reducible refine LeO.ite ?_ ?_)
   | (with_reducible refine LeO.bind ?_ (fun _=>?_))
   | exact ih0 _ _ _
   | exact ratio_divisor.mono _ _ _
   | exact LeO.none _
   | refine LeO.ite ?_ ?_
   | refine LeO.bind ?_ (fun _=>?_)
theorem ratio_Make.mono : ∀ a0 a1 k,LeO (ratio_Make.f k a0 a1) (ratio_Make.f (k + 1) a0 a1):=by
 intro a0 a1 k
 have ih0:=ratio_Make.mono_l k
 unfold ratio_Make.f
 repeat' first
   | (with_reducible exact ih0 _ _ _)
   | (with_reducible exact ratio_divisor.mono _ _ _)
   | (with_reducible exact LeO.refl _)
   | (with_reducible exact LeO.none _)
   | (with_reducible refine LeO.ite ?_ ?_)
   | (with_reducible refine LeO.bind ?_ (fun _=>?_))
   | exact ih0 _ _ _
   | exact ratio_divisor.mono _ _ _
   | exact LeO.none _
   | refine LeO.ite ?_ ?_
   | refine LeO.bind ?_ (fun _=>?_)
def ratio_Make.T4 : Bool × List (List Nat × List Nat):=(true,[([],[]),([],[]),([0,1],[0,1]),([],[]),([],[]),([3,4],[3,4]),([2,5],[2,5]),([],[]),([7,6,0,1,2,3,4,5,6,7],[6,7])])
def ratio_Make.B4 : List Nat:=[0,0,3,0,0,24,63,0,255]
theorem ratio_Make.tab4 : rtab .any (opsOf Try.f71 4) = ratio_Make.T4:=by kernel_rfl
theorem ratio_Make.bits4 : waitsOk ratio_Make.T4.2 ratio_Make.B4 = true:=by kernel_rfl
set_option maxHeartbeats 8000000 in
set_option maxRecDepth 100000 in
theorem ratio_Make.calls (k : Nat) (a0 : Int) (a1 : Int) (r1 : Int) (r2 : Int) (r3 : Int) (w : World) (h : ratio_Make.f k a0 a1 = some (r1,r2,r3)) :
  Calls Try.prog 71 #[.int .i64 a0,.int .i64 a1] w fun e w'=>e = .returned (.tuple #[.agg #[.int .i64 r1,.int .i64 r2],.int .i64 r3])∧Below w.heap.size w w':=by
 have hu36:=Try.underlying36
 have HB:=A_ (Below.refl w.heap.size w)
 have H : (if a0 < 0 then (ratio_Make.j0 k a0 a1 true) else (ratio_Make.j0 k a0 a1 (decide (a1 < 1)))) = some (r1,r2,r3):=h
 clear h
 have HC3:=A_ H
 clear H
 go_enter Try.func71,Try.ntmps71
 go_upto_region 1 with (first|((with_reducible refine gate_dst (N:=4) rfl ?_);refine box_event ?hg (N:=4) ?hd (cs:=#[.int .i64 0,.int .i64 0]) (t:=36) ?hr ?_;(case hd=>rfl);(case hg=>rfl);(case hr=>first|(go_simp;done)|(go_simp;rfl));intro gb150 hg w4 hbox hb;have n0_:=A_ (below_step (by repeat (first|(with_reducible first|exact HB.out|apply ba|apply bb|apply bc)|exact HB.out)) hb);have n1_:=A_ (hbox);have n2_:=A_ ((by rw [hg];exact (below_size (by repeat (first|(with_reducible first|exact HB.out|apply ba|apply bb|apply bc)|exact HB.out))) : w.heap.size ≤ gb150));have n3_:=A_ ((by rw [hg];exact (below_size (by repeat (first|(with_reducible first|exact HB.out|apply ba|apply bb|apply bc)|exact HB.out))) : w.heap.size ≤ gb150));clear HB;have HB:=n0_;have BK150:=n1_;have GW150:=n2_;have GE150:=n3_;clear n0_ n1_ n2_ n3_;clear hb hbox hg))
 (try simp only [Act.put,List.setIfInBounds_toArray,List.set_cons_zero,List.set_cons_succ])
 go_cut [13] (fun v13 wc=>∃ (kq : Nat) (x13_2 : Bool),v13 = .bool x13_2∧Aside0 (ratio_Make.j0 kq a0 a1 x13_2 = some (r1,r2,r3))∧Aside0 (kq ≤ k)∧Aside0 (wc.heap[gb150]? = some (.cells #[.int .i64 0,.int .i64 0] 36 (0,0)))∧Aside0 (Below w.heap.size w wc))
 case first =>
  have H:=HC3.out
  clear HC3
  by_cases c5 : a0 < 0
  ·
   rw [if_pos c5] at H
   have c5b0 : decide (a0 < 0) = true:=decide_eq_true c5
   clear c5
   (first|rw [c5b0]|(simp only [i64_w,i32_w];rw [c5b0])|skip)
   have H':=A_ H
   clear H
   go_wp2
   go_meet
   case rel=>exact ⟨_,(true),(by first|rfl|(simp;done)|(simp [*];done)),H',⟨by first|omega|exact Nat.le_refl _⟩,⟨by (with_reducible repeat (first|refine blk_drewN ?_ _|refine blk_drew ?_|refine blk_alloc ?_ _));exact BK150.out⟩,⟨by repeat (first|(with_reducible first|exact HB.out|apply ba|apply bb|apply bc|refine below_set ?_ GE150.out)|exact HB.out)⟩⟩
  ·
   rw [if_neg c5] at H
   have c5b0 : decide (a0 < 0) = false:=decide_eq_false c5
   clear c5
   (first|rw [c5b0]|(simp only [i64_w,i32_w];rw [c5b0])|skip)
   have H':=A_ H
   clear H
   go_wp2
   go_meet
   case rel=>exact ⟨_,(decide (a1 < 1)),(by first|rfl|(simp;done)|(simp [*];done)),H',⟨by first|omega|exact Nat.le_refl _⟩,⟨by (with_reducible repeat (first|refine blk_drewN ?_ _|refine blk_drew ?_|refine blk_alloc ?_ _));exact BK150.out⟩,⟨by repeat (first|(with_reducible first|exact HB.out|apply ba|apply bb|apply bc|refine below_set ?_ GE150.out)|exact HB.out)⟩⟩
 case rest =>
  clear HC3
  try clear p2
  try clear c5
  try clear c5b0
  obtain ⟨kq,x13_2,rfl,HA,HJ2,BK150,HB⟩:=hcut
  cases kq with
  | zero=>exact absurd HA.out (by simp [ratio_Make.j0])
  | succ kj2 =>
   have H:=HA.out
   clear HA
   simp only [ratio_Make.j0] at H
   by_cases c6 : x13_2 = true
   ·
    subst c6
    have H1 : (some (0,0,1)) = some (r1,r2,r3):=by rw [if_pos rfl] at H;exact H
    clear H
    have H:=H1
    clear H1
    simp only [Option.some.injEq,Prod.mk.injEq] at H
    obtain ⟨rfl,rfl,rfl⟩:=H
    have hcz7_0 : wc.cell? ⟨gb150,0,none⟩ = some (.int .i64 0):=(blk_cell BK150.out 0).trans rfl
    have hcz7_1 : wc.cell? ⟨gb150,1,none⟩ = some (.int .i64 0):=(blk_cell BK150.out 1).trans rfl
    have hfz7_0:=blk_frozen BK150.out 0
    have hfz7_1:=blk_frozen BK150.out 1
    go_wp2
    refine bodyPost_ret (results_ct rfl _ _ gb150 36 #[.int .i64 0,.int .i64 0] (0,0) _ rfl (by (with_reducible repeat (first|refine blk_drewN ?_ _|refine blk_drew ?_|refine blk_alloc ?_ _));refine blk_put (cs:=#[.int .i64 0,.int .i64 0]) ?_ 1 _ rfl;(with_reducible repeat (first|refine blk_drewN ?_ _|refine blk_drew ?_|refine blk_alloc ?_ _));refine blk_put (cs:=#[.int .i64 0,.int .i64 0]) ?_ 0 _ rfl;(with_reducible repeat (first|refine blk_drewN ?_ _|refine blk_drew ?_|refine blk_alloc ?_ _));exact BK150.out) Try.underlying36 rfl (by kernel_rfl)) rfl ?_
    exact ⟨by first|rfl|(simp [errW_none,errW_some] <;> rfl)|(simp [*,errW_none,errW_some] <;> rfl),by repeat (first|(with_reducible first|exact HB.out|apply ba|apply bb|apply bc|refine below_set ?_ GE150.out)|exact HB.out)⟩
   ·
    replace c6:=Bool.eq_false_iff.mpr c6
    subst c6
    have H1 : ((ratio_divisor.f kj2 a0 a1).bind fun t151=>(if t151 = 0 then (none) else ((ratio_within.f (wrap64 (Int.tdiv a0 t151)) (wrap64 (Int.tdiv a1 t151))).bind fun t153=>(if t153 = true then (some (wrap64 (Int.tdiv a0 t151),wrap64 (Int.tdiv a1 t151),0)) else (some (0,0,1)))))) = some (r1,r2,r3):=by rw [if_neg (show ¬ (false = true) by decide)] at H;exact H
    clear H
    have H:=H1
    clear H1
    replace H:=Option.bind_eq_some_iff.mp H
    obtain ⟨t151,A80,H⟩:=H
    replace H : (if t151 = 0 then (none) else ((ratio_within.f (wrap64 (Int.tdiv a0 t151)) (wrap64 (Int.tdiv a1 t151))).bind fun t153=>(if t153 = true then (some (wrap64 (Int.tdiv a0 t151),wrap64 (Int.tdiv a1 t151),0)) else (some (0,0,1))))) = some (r1,r2,r3):=H
    have A8:=A_ A80
    clear A80
    by_cases c9 : t151 = 0
    ·
     rw [if_pos c9] at H
     exact absurd H (by simp)
    ·
     rw [if_neg c9] at H
     have c9b0 : (t151 == 0) = false:=beq_eq_false_iff_ne.mpr c9
     have c9b1 : (t151 != 0) = true:=bne_iff_ne.mpr c9
     replace H:=Option.bind_eq_some_iff.mp H
     obtain ⟨t153,A100,H⟩:=H
     replace H : (if t153 = true then (some (wrap64 (Int.tdiv a0 t151),wrap64 (Int.tdiv a1 t151),0)) else (some (0,0,1))) = some (r1,r2,r3):=H
     have A10:=A_ A100
     clear A100
     by_cases c11 : t153 = true
     ·
      subst c11
      have H1 : (some (wrap64 (Int.tdiv a0 t151),wrap64 (Int.tdiv a1 t151),0)) = some (r1,r2,r3):=by rw [if_pos rfl] at H;exact H
      clear H
      have H:=H1
      clear H1
      simp only [Option.some.injEq,Prod.mk.injEq] at H
      obtain ⟨rfl,rfl,rfl⟩:=H
      try go_wp2_with (first|((with_reducible refine gate_callee (f:=79) rfl ?_);refine goesL_ (some 17) rfl rfl Try.func79 (by kernel_rfl) rfl #[.int .i64 a0,.int .i64 a1] rfl (by (try simp only [List.map_toArray,List.map_cons,List.map_nil]);first|done|rfl|(simp only [List.length_drop,List.length_take];rfl)) ?_;(with_reducible refine (ratio_divisor.calls kj2 a0 a1 t151 _ A8.out).mono ?_);rintro e w' ⟨rfl,⟨nd,rfl⟩⟩;refine ⟨_,rfl,?_⟩;(try (rw [drewN_self wc];generalize hq_ : World.drewN wc _ = wc;have n0_ : Aside0 (wc.heap[gb150]? = some (.cells #[.int .i64 0,.int .i64 0] 36 (0,0))):=⟨by rw [← hq_];exact (by (with_reducible repeat (first|refine blk_drewN ?_ _|refine blk_drew ?_|refine blk_alloc ?_ _));exact BK150.out)⟩;have n1_ : Aside0 (Below w.heap.size w wc):=⟨by rw [← hq_];exact (by repeat (first|(with_reducible first|exact HB.out|apply ba|apply bb|apply bc|refine below_set ?_ GE150.out)|exact HB.out))⟩;clear BK150 HB hq_;have BK150:=n0_;have HB:=n1_;clear n0_ n1_))))
      (try (rw [drewN_self wc];generalize hq_ : World.drewN wc _ = wc;have n0_ : Aside0 (wc.heap[gb150]? = some (.cells #[.int .i64 0,.int .i64 0] 36 (0,0))):=⟨by rw [← hq_];exact (by (with_reducible repeat (first|refine blk_drewN ?_ _|refine blk_drew ?_|refine blk_alloc ?_ _));exact BK150.out)⟩;have n1_ : Aside0 (Below w.heap.size w wc):=⟨by rw [← hq_];exact (by repeat (first|(with_reducible first|exact HB.out|apply ba|apply bb|apply bc|refine below_set ?_ GE150.out)|exact HB.out))⟩;clear BK150 HB hq_;have BK150:=n0_;have HB:=n1_;clear n0_ n1_))
      have n0_:=A_ (blk_drew BK150.out)
      have n1_:=A_ (below_drew1 HB.out)
      clear BK150
      clear HB
      have BK150:=n0_
      have HB:=n1_
      clear n0_ n1_
      refine start_ (n:=9) (S:=fun w'=>True) (ds:=[]) #[false,false,false,false,false,false,false,false,false] (by kernel_rfl) rfl rfl trivial (fun hHeld=>?_);refine with_tabW ratio_Make.tab4 ratio_Make.bits4 (fun HT_ HW_=>?_)
      generalize wc.drew = w12 at BK150 HB hHeld ⊢
      refine pure_ (i:=0) (N:=some 18) (v:=?_) (a':=?_) #[true,false,false,false,false,false,false,false,false] rfl rfl (any_of HT_.out (by kernel_rfl)) (fun _ _ _ h=>h) (Or.inl ⟨by rfl,?_⟩) ?_ ?_
      rotate_left
      ·
       intro w'
       go_simp
       with_reducible rfl
      rotate_left
      ·
       simp only [Act.put,sa,sb,sc,i64_w,i32_w]
       rfl
      refine pure_ (i:=1) (N:=some 19) (v:=?_) (a':=?_) #[true,true,false,false,false,false,false,false,false] rfl rfl (any_of HT_.out (by kernel_rfl)) (fun _ _ _ h=>h) (Or.inl ⟨by rfl,?_⟩) ?_ ?_
      rotate_left
      ·
       intro w'
       go_simp
       with_reducible rfl
      rotate_left
      ·
       simp only [Act.put,sa,sb,sc,i64_w,i32_w]
       rfl
      refine pure_ (i:=2) (N:=some 20) (v:=?_) (a':=?_) #[true,true,true,false,false,false,false,false,false] rfl rfl (any_of HT_.out (by kernel_rfl)) (fun _ _ _ h=>h) (Or.inl ⟨by rfl,?_⟩) ?_ ?_
      rotate_left
      ·
       intro w'
       go_simp
       with_reducible rfl
      rotate_left
      ·
       simp only [Act.put,sa,sb,sc,i64_w,i32_w]
       rfl
      refine pure_ (i:=3) (N:=some 21) (v:=?_) (a':=?_) #[true,true,true,true,false,false,false,false,false] rfl rfl (any_of HT_.out (by kernel_rfl)) (fun _ _ _ h=>h) (Or.inl ⟨by rfl,?_⟩) ?_ ?_
      rotate_left
      ·
       intro w'
       go_simp
       with_reducible rfl
      rotate_left
      ·
       simp only [Act.put,sa,sb,sc,i64_w,i32_w]
       rfl
      refine pure_ (i:=4) (N:=some 22) (v:=?_) (a':=?_) #[true,true,true,true,true,false,false,false,false] rfl rfl (any_of HT_.out (by kernel_rfl)) (fun _ _ _ h=>h) (Or.inl ⟨by rfl,?_⟩) ?_ ?_
      rotate_left
      ·
       intro w'
       go_simp
       with_reducible rfl
      rotate_left
      ·
       simp only [Act.put,sa,sb,sc,i64_w,i32_w]
       rfl
      refine pure_ (i:=5) (N:=some 23) (v:=?_) (a':=?_) #[true,true,true,true,true,true,false,false,false] rfl rfl (any_of HT_.out (by kernel_rfl)) (fun _ _ _ h=>h) (Or.inl ⟨by rfl,?_⟩) ?_ ?_
      rotate_left
      ·
       intro w'
       go_simp
       with_reducible rfl
      rotate_left
      ·
       simp only [Act.put,sa,sb,sc,i64_w,i32_w]
       rfl
      refine pure_ (i:=6) (N:=some 24) (v:=?_) (a':=?_) #[true,true,true,true,true,true,true,false,false] rfl rfl (any_of HT_.out (by kernel_rfl)) (fun _ _ _ h=>h) (Or.inl ⟨by rfl,?_⟩) ?_ ?_
      rotate_left
      ·
       intro w'
       go_simp
       with_reducible rfl
      rotate_left
      ·
       simp only [Act.put,sa,sb,sc,i64_w,i32_w]
       rfl
      refine one_ (i:=7) (N:=some 7) #[true,true,true,true,true,true,true,true,false] rfl rfl (one_of HT_.out (by kernel_rfl)) (by decide) (fun K hK=>?_)
      refine box_step ?hg (N:=7) ?hd (cs:=#[.int .i64 0,.int .i64 0]) (t:=36) ?hr ?_;(case hd=>rfl);(case hg=>rfl);(case hr=>first|(go_simp;done)|(go_simp;rfl))
      intro gb152 hg w13 hbox hb
      have n0_:=A_ (blk_below (g:=gb150) (o:=.cells #[.int .i64 0,.int .i64 0] 36 (0,0)) (by (with_reducible repeat (first|refine blk_drewN ?_ _|refine blk_drew ?_|refine blk_alloc ?_ _));exact BK150.out) hb)
      have n1_:=A_ (below_step (by repeat (first|(with_reducible first|exact HB.out|apply ba|apply bb|apply bc|refine below_set ?_ GE150.out)|exact HB.out)) hb)
      have n2_:=A_ (hbox)
      have n3_:=A_ ((by rw [hg];exact (below_size (by repeat (first|(with_reducible first|exact HB.out|apply ba|apply bb|apply bc|refine below_set ?_ GE150.out)|exact HB.out))) : w.heap.size ≤ gb152))
      have n4_:=A_ ((by rw [hg];exact (below_size (by repeat (first|(with_reducible first|exact HB.out|apply ba|apply bb|apply bc|refine below_set ?_ GE150.out)|exact HB.out))) : w.heap.size ≤ gb152))
      have n5_:=A_ ((by rw [hg];exact Nat.ne_of_lt (blk_lt (g:=gb150) (o:=.cells #[.int .i64 0,.int .i64 0] 36 (0,0)) (by (with_reducible repeat (first|refine blk_drewN ?_ _|refine blk_drew ?_|refine blk_alloc ?_ _));exact BK150.out)) : gb150≠gb152))
      have n6_:=A_ ((by rw [hg];exact Nat.ne_of_gt (blk_lt (g:=gb150) (o:=.cells #[.int .i64 0,.int .i64 0] 36 (0,0)) (by (with_reducible repeat (first|refine blk_drewN ?_ _|refine blk_drew ?_|refine blk_alloc ?_ _));exact BK150.out)) : gb152≠gb150))
      clear BK150
      clear HB
      have BK150:=n0_
      have HB:=n1_
      have BK152:=n2_
      have GW152:=n3_
      have GE152:=n4_
      have NB150_152:=n5_
      have NB152_150:=n6_
      clear n0_ n1_ n2_ n3_ n4_ n5_ n6_
      clear hb hbox hg
      refine hK.out _ _ trivial (fun hHeld=>?_)
      clear hK K
      refine norm_ (a':=?_) ?_ ?_
      rotate_left
      ·
       show Act.put _ (some 7) _ = _
       simp only [Act.put,sa,sb,sc,i64_w,i32_w]
       rfl
      refine one_ (i:=8) (N:=none) #[true,true,true,true,true,true,true,true,true] rfl rfl (one_of HT_.out (by kernel_rfl)) (by decide) (fun K hK=>?_)
      have hs14 : w13.cell? ⟨gb152,0,none⟩ = some (.int .i64 0):=(blk_cell BK152.out 0).trans rfl
      have hfs14:=blk_frozen BK152.out 0
      have hns14_0:=NB150_152.out
      have hms14_0:=NB152_150.out
      have hs15 : w13.cell? ⟨gb152,1,none⟩ = some (.int .i64 0):=(blk_cell BK152.out 1).trans rfl
      have hfs15:=blk_frozen BK152.out 1
      have hns15_0:=NB150_152.out
      have hms15_0:=NB152_150.out
      refine skip_ (w1:=?_) (by rfl) rfl ?_ ?_
      rotate_left
      ·
       go_simp
       rfl
      refine hK.out _ _ trivial (fun hHeld=>?_)
      clear hK K
      refine done_ (done_of HT_.out (by kernel_rfl)) ?_
      have hnb16:=NB152_150.out
      have hnc16:=NB150_152.out
      have hcz17_0 : w13.cell? ⟨gb152,0,none⟩ = some (.int .i64 0):=(blk_cell BK152.out 0).trans rfl
      have hcz17_1 : w13.cell? ⟨gb152,1,none⟩ = some (.int .i64 0):=(blk_cell BK152.out 1).trans rfl
      have hfz17_0:=blk_frozen BK152.out 0
      have hfz17_1:=blk_frozen BK152.out 1
      try go_wp2_with (first|((with_reducible refine gate_callee (f:=80) rfl ?_);refine goesL_ (some 26) rfl rfl Try.func80 (by kernel_rfl) rfl #[.agg #[.int .i64 (wrap64 (Int.tdiv a0 t151)),.int .i64 (wrap64 (Int.tdiv a1 t151))]] rfl (by (try simp only [List.map_toArray,List.map_cons,List.map_nil]);first|done|rfl|(simp only [List.length_drop,List.length_take];rfl)) ?_;(with_reducible refine (ratio_within.calls (wrap64 (Int.tdiv a0 t151)) (wrap64 (Int.tdiv a1 t151)) true _ A10.out).mono ?_);rintro e w18 ⟨rfl,hb⟩;refine ⟨_,rfl,?_⟩;have n0_:=A_ (blk_below (g:=gb150) (o:=.cells #[.int .i64 0,.int .i64 0] 36 (0,0)) (by (with_reducible repeat (first|refine blk_drewN ?_ _|refine blk_drew ?_|refine blk_alloc ?_ _));refine blk_far ?_ NB150_152.out _;(with_reducible repeat (first|refine blk_drewN ?_ _|refine blk_drew ?_|refine blk_alloc ?_ _));refine blk_far ?_ NB150_152.out _;(with_reducible repeat (first|refine blk_drewN ?_ _|refine blk_drew ?_|refine blk_alloc ?_ _));exact BK150.out) hb);have n1_:=A_ (blk_below (g:=gb152) (o:=.cells #[.int .i64 (wrap64 (Int.tdiv a0 t151)),.int .i64 (wrap64 (Int.tdiv a1 t151))] 36 (0,0)) (by (with_reducible repeat (first|refine blk_drewN ?_ _|refine blk_drew ?_|refine blk_alloc ?_ _));refine blk_put (cs:=#[.int .i64 (wrap64 (Int.tdiv a0 t151)),.int .i64 0]) ?_ 1 _ rfl;(with_reducible repeat (first|refine blk_drewN ?_ _|refine blk_drew ?_|refine blk_alloc ?_ _));refine blk_put (cs:=#[.int .i64 0,.int .i64 0]) ?_ 0 _ rfl;(with_reducible repeat (first|refine blk_drewN ?_ _|refine blk_drew ?_|refine blk_alloc ?_ _));exact BK152.out) hb);have n2_:=A_ (below_step (by repeat (first|(with_reducible first|exact HB.out|apply ba|apply bb|apply bc|refine below_set ?_ GE150.out|refine below_set ?_ GE152.out)|exact HB.out)) hb);clear BK150;clear BK152;clear HB;have BK150:=n0_;have BK152:=n1_;have HB:=n2_;clear n0_ n1_ n2_;(try clear hb);(try clear hb2);(try clear hk);(try clear hi);have hcz19_0 : w18.cell? ⟨gb152,0,none⟩ = some (.int .i64 (wrap64 (Int.tdiv a0 t151))):=(blk_cell BK152.out 0).trans rfl;have hcz19_1 : w18.cell? ⟨gb152,1,none⟩ = some (.int .i64 (wrap64 (Int.tdiv a1 t151))):=(blk_cell BK152.out 1).trans rfl;have hfz19_0:=blk_frozen BK152.out 0;have hfz19_1:=blk_frozen BK152.out 1;have hcz20_0 : w18.cell? ⟨gb150,0,none⟩ = some (.int .i64 0):=(blk_cell BK150.out 0).trans rfl;have hcz20_1 : w18.cell? ⟨gb150,1,none⟩ = some (.int .i64 0):=(blk_cell BK150.out 1).trans rfl;have hfz20_0:=blk_frozen BK150.out 0;have hfz20_1:=blk_frozen BK150.out 1))
      refine bodyPost_ret (results_ct rfl _ _ gb150 36 #[.int .i64 (wrap64 (Int.tdiv a0 t151)),.int .i64 (wrap64 (Int.tdiv a1 t151))] (0,0) _ rfl (by (with_reducible repeat (first|refine blk_drewN ?_ _|refine blk_drew ?_|refine blk_alloc ?_ _));refine blk_put (cs:=#[.int .i64 (wrap64 (Int.tdiv a0 t151)),.int .i64 0]) ?_ 1 _ rfl;(with_reducible repeat (first|refine blk_drewN ?_ _|refine blk_drew ?_|refine blk_alloc ?_ _));refine blk_put (cs:=#[.int .i64 0,.int .i64 0]) ?_ 0 _ rfl;(with_reducible repeat (first|refine blk_drewN ?_ _|refine blk_drew ?_|refine blk_alloc ?_ _));exact BK150.out) Try.underlying36 rfl (by kernel_rfl)) rfl ?_
      exact ⟨by first|rfl|(simp [errW_none,errW_some] <;> rfl)|(simp [*,errW_none,errW_some] <;> rfl),by repeat (first|(with_reducible first|exact HB.out|apply ba|apply bb|apply bc|refine below_set ?_ GE150.out|refine below_set ?_ GE152.out)|exact HB.out)⟩
     ·
      replace c11:=Bool.eq_false_iff.mpr c11
      subst c11
      have H1 : (some (0,0,1)) = some (r1,r2,r3):=by rw [if_neg (show ¬ (false = true) by decide)] at H;exact H
      clear H
      have H:=H1
      clear H1
      simp only [Option.some.injEq,Prod.mk.injEq] at H
      obtain ⟨rfl,rfl,rfl⟩:=H
      try go_wp2_with (first|((with_reducible refine gate_callee (f:=79) rfl ?_);refine goesL_ (some 17) rfl rfl Try.func79 (by kernel_rfl) rfl #[.int .i64 a0,.int .i64 a1] rfl (by (try simp only [List.map_toArray,List.map_cons,List.map_nil]);first|done|rfl|(simp only [List.length_drop,List.length_take];rfl)) ?_;(with_reducible refine (ratio_divisor.calls kj2 a0 a1 t151 _ A8.out).mono ?_);rintro e w' ⟨rfl,⟨nd,rfl⟩⟩;refine ⟨_,rfl,?_⟩;(try (rw [drewN_self wc];generalize hq_ : World.drewN wc _ = wc;have n0_ : Aside0 (wc.heap[gb150]? = some (.cells #[.int .i64 0,.int .i64 0] 36 (0,0))):=⟨by rw [← hq_];exact (by (with_reducible repeat (first|refine blk_drewN ?_ _|refine blk_drew ?_|refine blk_alloc ?_ _));exact BK150.out)⟩;have n1_ : Aside0 (Below w.heap.size w wc):=⟨by rw [← hq_];exact (by repeat (first|(with_reducible first|exact HB.out|apply ba|apply bb|apply bc|refine below_set ?_ GE150.out)|exact HB.out))⟩;clear BK150 HB hq_;have BK150:=n0_;have HB:=n1_;clear n0_ n1_))))
      (try (rw [drewN_self wc];generalize hq_ : World.drewN wc _ = wc;have n0_ : Aside0 (wc.heap[gb150]? = some (.cells #[.int .i64 0,.int .i64 0] 36 (0,0))):=⟨by rw [← hq_];exact (by (with_reducible repeat (first|refine blk_drewN ?_ _|refine blk_drew ?_|refine blk_alloc ?_ _));exact BK150.out)⟩;have n1_ : Aside0 (Below w.heap.size w wc):=⟨by rw [← hq_];exact (by repeat (first|(with_reducible first|exact HB.out|apply ba|apply bb|apply bc|refine below_set ?_ GE150.out)|exact HB.out))⟩;clear BK150 HB hq_;have BK150:=n0_;have HB:=n1_;clear n0_ n1_))
      have n0_:=A_ (blk_drew BK150.out)
      have n1_:=A_ (below_drew1 HB.out)
      clear BK150
      clear HB
      have BK150:=n0_
      have HB:=n1_
      clear n0_ n1_
      refine start_ (n:=9) (S:=fun w'=>True) (ds:=[]) #[false,false,false,false,false,false,false,false,false] (by kernel_rfl) rfl rfl trivial (fun hHeld=>?_);refine with_tabW ratio_Make.tab4 ratio_Make.bits4 (fun HT_ HW_=>?_)
      generalize wc.drew = w21 at BK150 HB hHeld ⊢
      refine pure_ (i:=0) (N:=some 18) (v:=?_) (a':=?_) #[true,false,false,false,false,false,false,false,false] rfl rfl (any_of HT_.out (by kernel_rfl)) (fun _ _ _ h=>h) (Or.inl ⟨by rfl,?_⟩) ?_ ?_
      rotate_left
      ·
       intro w'
       go_simp
       with_reducible rfl
      rotate_left
      ·
       simp only [Act.put,sa,sb,sc,i64_w,i32_w]
       rfl
      refine pure_ (i:=1) (N:=some 19) (v:=?_) (a':=?_) #[true,true,false,false,false,false,false,false,false] rfl rfl (any_of HT_.out (by kernel_rfl)) (fun _ _ _ h=>h) (Or.inl ⟨by rfl,?_⟩) ?_ ?_
      rotate_left
      ·
       intro w'
       go_simp
       with_reducible rfl
      rotate_left
      ·
       simp only [Act.put,sa,sb,sc,i64_w,i32_w]
       rfl
      refine pure_ (i:=2) (N:=some 20) (v:=?_) (a':=?_) #[true,true,true,false,false,false,false,false,false] rfl rfl (any_of HT_.out (by kernel_rfl)) (fun _ _ _ h=>h) (Or.inl ⟨by rfl,?_⟩) ?_ ?_
      rotate_left
      ·
       intro w'
       go_simp
       with_reducible rfl
      rotate_left
      ·
       simp only [Act.put,sa,sb,sc,i64_w,i32_w]
       rfl
      refine pure_ (i:=3) (N:=some 21) (v:=?_) (a':=?_) #[true,true,true,true,false,false,false,false,false] rfl rfl (any_of HT_.out (by kernel_rfl)) (fun _ _ _ h=>h) (Or.inl ⟨by rfl,?_⟩) ?_ ?_
      rotate_left
      ·
       intro w'
       go_simp
       with_reducible rfl
      rotate_left
      ·
       simp only [Act.put,sa,sb,sc,i64_w,i32_w]
       rfl
      refine pure_ (i:=4) (N:=some 22) (v:=?_) (a':=?_) #[true,true,true,true,true,false,false,false,false] rfl rfl (any_of HT_.out (by kernel_rfl)) (fun _ _ _ h=>h) (Or.inl ⟨by rfl,?_⟩) ?_ ?_
      rotate_left
      ·
       intro w'
       go_simp
       with_reducible rfl
      rotate_left
      ·
       simp only [Act.put,sa,sb,sc,i64_w,i32_w]
       rfl
      refine pure_ (i:=5) (N:=some 23) (v:=?_) (a':=?_) #[true,true,true,true,true,true,false,false,false] rfl rfl (any_of HT_.out (by kernel_rfl)) (fun _ _ _ h=>h) (Or.inl ⟨by rfl,?_⟩) ?_ ?_
      rotate_left
      ·
       intro w'
       go_simp
       with_reducible rfl
      rotate_left
      ·
       simp only [Act.put,sa,sb,sc,i64_w,i32_w]
       rfl
      refine pure_ (i:=6) (N:=some 24) (v:=?_) (a':=?_) #[true,true,true,true,true,true,true,false,false] rfl rfl (any_of HT_.out (by kernel_rfl)) (fun _ _ _ h=>h) (Or.inl ⟨by rfl,?_⟩) ?_ ?_
      rotate_left
      ·
       intro w'
       go_simp
       with_reducible rfl
      rotate_left
      ·
       simp only [Act.put,sa,sb,sc,i64_w,i32_w]
       rfl
      refine one_ (i:=7) (N:=some 7) #[true,true,true,true,true,true,true,true,false] rfl rfl (one_of HT_.out (by kernel_rfl)) (by decide) (fun K hK=>?_)
      refine box_step ?hg (N:=7) ?hd (cs:=#[.int .i64 0,.int .i64 0]) (t:=36) ?hr ?_;(case hd=>rfl);(case hg=>rfl);(case hr=>first|(go_simp;done)|(go_simp;rfl))
      intro gb152 hg w22 hbox hb
      have n0_:=A_ (blk_below (g:=gb150) (o:=.cells #[.int .i64 0,.int .i64 0] 36 (0,0)) (by (with_reducible repeat (first|refine blk_drewN ?_ _|refine blk_drew ?_|refine blk_alloc ?_ _));exact BK150.out) hb)
      have n1_:=A_ (below_step (by repeat (first|(with_reducible first|exact HB.out|apply ba|apply bb|apply bc|refine below_set ?_ GE150.out)|exact HB.out)) hb)
      have n2_:=A_ (hbox)
      have n3_:=A_ ((by rw [hg];exact (below_size (by repeat (first|(with_reducible first|exact HB.out|apply ba|apply bb|apply bc|refine below_set ?_ GE150.out)|exact HB.out))) : w.heap.size ≤ gb152))
      have n4_:=A_ ((by rw [hg];exact (below_size (by repeat (first|(with_reducible first|exact HB.out|apply ba|apply bb|apply bc|refine below_set ?_ GE150.out)|exact HB.out))) : w.heap.size ≤ gb152))
      have n5_:=A_ ((by rw [hg];exact Nat.ne_of_lt (blk_lt (g:=gb150) (o:=.cells #[.int .i64 0,.int .i64 0] 36 (0,0)) (by (with_reducible repeat (first|refine blk_drewN ?_ _|refine blk_drew ?_|refine blk_alloc ?_ _));exact BK150.out)) : gb150≠gb152))
      have n6_:=A_ ((by rw [hg];exact Nat.ne_of_gt (blk_lt (g:=gb150) (o:=.cells #[.int .i64 0,.int .i64 0] 36 (0,0)) (by (with_reducible repeat (first|refine blk_drewN ?_ _|refine blk_drew ?_|refine blk_alloc ?_ _));exact BK150.out)) : gb152≠gb150))
      clear BK150
      clear HB
      have BK150:=n0_
      have HB:=n1_
      have BK152:=n2_
      have GW152:=n3_
      have GE152:=n4_
      have NB150_152:=n5_
      have NB152_150:=n6_
      clear n0_ n1_ n2_ n3_ n4_ n5_ n6_
      clear hb hbox hg
      refine hK.out _ _ trivial (fun hHeld=>?_)
      clear hK K
      refine norm_ (a':=?_) ?_ ?_
      rotate_left
      ·
       show Act.put _ (some 7) _ = _
       simp only [Act.put,sa,sb,sc,i64_w,i32_w]
       rfl
      refine one_ (i:=8) (N:=none) #[true,true,true,true,true,true,true,true,true] rfl rfl (one_of HT_.out (by kernel_rfl)) (by decide) (fun K hK=>?_)
      have hs23 : w22.cell? ⟨gb152,0,none⟩ = some (.int .i64 0):=(blk_cell BK152.out 0).trans rfl
      have hfs23:=blk_frozen BK152.out 0
      have hns23_0:=NB150_152.out
      have hms23_0:=NB152_150.out
      have hs24 : w22.cell? ⟨gb152,1,none⟩ = some (.int .i64 0):=(blk_cell BK152.out 1).trans rfl
      have hfs24:=blk_frozen BK152.out 1
      have hns24_0:=NB150_152.out
      have hms24_0:=NB152_150.out
      refine skip_ (w1:=?_) (by rfl) rfl ?_ ?_
      rotate_left
      ·
       go_simp
       rfl
      refine hK.out _ _ trivial (fun hHeld=>?_)
      clear hK K
      refine done_ (done_of HT_.out (by kernel_rfl)) ?_
      have hnb25:=NB152_150.out
      have hnc25:=NB150_152.out
      have hcz26_0 : w22.cell? ⟨gb152,0,none⟩ = some (.int .i64 0):=(blk_cell BK152.out 0).trans rfl
      have hcz26_1 : w22.cell? ⟨gb152,1,none⟩ = some (.int .i64 0):=(blk_cell BK152.out 1).trans rfl
      have hfz26_0:=blk_frozen BK152.out 0
      have hfz26_1:=blk_frozen BK152.out 1
      try go_wp2_with (first|((with_reducible refine gate_callee (f:=80) rfl ?_);refine goesL_ (some 26) rfl rfl Try.func80 (by kernel_rfl) rfl #[.agg #[.int .i64 (wrap64 (Int.tdiv a0 t151)),.int .i64 (wrap64 (Int.tdiv a1 t151))]] rfl (by (try simp only [List.map_toArray,List.map_cons,List.map_nil]);first|done|rfl|(simp only [List.length_drop,List.length_take];rfl)) ?_;(with_reducible refine (ratio_within.calls (wrap64 (Int.tdiv a0 t151)) (wrap64 (Int.tdiv a1 t151)) false _ A10.out).mono ?_);rintro e w27 ⟨rfl,hb⟩;refine ⟨_,rfl,?_⟩;have n0_:=A_ (blk_below (g:=gb150) (o:=.cells #[.int .i64 0,.int .i64 0] 36 (0,0)) (by (with_reducible repeat (first|refine blk_drewN ?_ _|refine blk_drew ?_|refine blk_alloc ?_ _));refine blk_far ?_ NB150_152.out _;(with_reducible repeat (first|refine blk_drewN ?_ _|refine blk_drew ?_|refine blk_alloc ?_ _));refine blk_far ?_ NB150_152.out _;(with_reducible repeat (first|refine blk_drewN ?_ _|refine blk_drew ?_|refine blk_alloc ?_ _));exact BK150.out) hb);have n1_:=A_ (blk_below (g:=gb152) (o:=.cells #[.int .i64 (wrap64 (Int.tdiv a0 t151)),.int .i64 (wrap64 (Int.tdiv a1 t151))] 36 (0,0)) (by (with_reducible repeat (first|refine blk_drewN ?_ _|refine blk_drew ?_|refine blk_alloc ?_ _));refine blk_put (cs:=#[.int .i64 (wrap64 (Int.tdiv a0 t151)),.int .i64 0]) ?_ 1 _ rfl;(with_reducible repeat (first|refine blk_drewN ?_ _|refine blk_drew ?_|refine blk_alloc ?_ _));refine blk_put (cs:=#[.int .i64 0,.int .i64 0]) ?_ 0 _ rfl;(with_reducible repeat (first|refine blk_drewN ?_ _|refine blk_drew ?_|refine blk_alloc ?_ _));exact BK152.out) hb);have n2_:=A_ (below_step (by repeat (first|(with_reducible first|exact HB.out|apply ba|apply bb|apply bc|refine below_set ?_ GE150.out|refine below_set ?_ GE152.out)|exact HB.out)) hb);clear BK150;clear BK152;clear HB;have BK150:=n0_;have BK152:=n1_;have HB:=n2_;clear n0_ n1_ n2_;(try clear hb);(try clear hb2);(try clear hk);(try clear hi);have hcz28_0 : w27.cell? ⟨gb150,0,none⟩ = some (.int .i64 0):=(blk_cell BK150.out 0).trans rfl;have hcz28_1 : w27.cell? ⟨gb150,1,none⟩ = some (.int .i64 0):=(blk_cell BK150.out 1).trans rfl;have hfz28_0:=blk_frozen BK150.out 0;have hfz28_1:=blk_frozen BK150.out 1))
      refine bodyPost_ret (results_ct rfl _ _ gb150 36 #[.int .i64 0,.int .i64 0] (0,0) _ rfl (by (with_reducible repeat (first|refine blk_drewN ?_ _|refine blk_drew ?_|refine blk_alloc ?_ _));refine blk_put (cs:=#[.int .i64 0,.int .i64 0]) ?_ 1 _ rfl;(with_reducible repeat (first|refine blk_drewN ?_ _|refine blk_drew ?_|refine blk_alloc ?_ _));refine blk_put (cs:=#[.int .i64 0,.int .i64 0]) ?_ 0 _ rfl;(with_reducible repeat (first|refine blk_drewN ?_ _|refine blk_drew ?_|refine blk_alloc ?_ _));exact BK150.out) Try.underlying36 rfl (by kernel_rfl)) rfl ?_
      exact ⟨by first|rfl|(simp [errW_none,errW_some] <;> rfl)|(simp [*,errW_none,errW_some] <;> rfl),by repeat (first|(with_reducible first|exact HB.out|apply ba|apply bb|apply bc|refine below_set ?_ GE150.out|refine below_set ?_ GE152.out)|exact HB.out)⟩

/-! ### normal_product: function 72 -/
def normal_product.l0 : Nat → List Int → List Int → Int → Int → Int → List Int → Int → Int → Option (Int)
 | 0,_,_,_,_,_,_,_,_=>none
 | k + 1,x0,x1,x5,x6,x7,x10,x11,x12=>if x12 < x11 then (if 0 ≤ x12 then (if x12 < (x10.length : Int) then (if x12 < (x1.length : Int) then (normal_product.l0 k x0 x1 (wrap64 (x5 + (wrap64 ((rd x10 x12) * (rd x1 x12))))) (wrap64 (x6 + (rd x10 x12))) (wrap64 (x7 + (rd x1 x12))) x10 x11 (wrap64 (x12 + 1))) else (none)) else (none)) else (none)) else (some (wrap64 ((wrap64 ((x0.length : Int) * x5)) - (wrap64 (x6 * x7)))))
def normal_product.f (k : Nat) (l0 : List Int) (l1 : List Int) : Option (Int):=normal_product.l0 k l0 l1 0 0 0 l0 (l0.length : Int) 0
theorem normal_product.mono_l : ∀ k,(∀ y0 y1 y2 y3 y4 y5 y6 y7,LeO (normal_product.l0 k y0 y1 y2 y3 y4 y5 y6 y7) (normal_product.l0 (k + 1) y0 y1 y2 y3 y4 y5 y6 y7))
 | 0=>fun _ _ _ _ _ _ _ _ r h=>by simp [normal_product.l0] at h
 | k + 1=>by
  have ih0:=normal_product.mono_l k
  ·
   intro y0 y1 y2 y3 y4 y5 y6 y7
   unfold normal_product.l0
   repeat' first
   | (with_reducible exact ih0 _ _ _ _ _ _ _ _)
   | (with_reducible exact LeO.refl _)
   | (with_reducible exact LeO.none _)
   | (with_reducible refine LeO.ite ?_ ?_)
   | (with_reducible refine LeO.bind ?_ (fun _=>?_))
   | exact ih0 _ _ _ _ _ _ _ _
   | exact LeO.none _
   | refine LeO.ite ?_ ?_
   | refine LeO.bind ?_ (fun _=>?_)
theorem normal_product.mono : ∀ a0 a1 k,LeO (normal_product.f k a0 a1) (normal_product.f (k + 1) a0 a1):=by
 intro a0 a1 k
 have ih0:=normal_product.mono_l k
 unfold normal_product.f
 repeat' first
   | (with_reducible exact ih0 _ _ _ _ _ _ _ _)
   | (with_reducible exact LeO.refl _)
   | (with_reducible exact LeO.none _)
   | (with_reducible refine LeO.ite ?_ ?_)
   | (with_reducible refine LeO.bind ?_ (fun _=>?_))
   | exact ih0 _ _ _ _ _ _ _ _
   | exact LeO.none _
   | refine LeO.ite ?_ ?_
   | refine LeO.bind ?_ (fun _=>?_)
set_option maxHeartbeats 8000000 in
set_option maxRecDepth 100000 in
theorem normal_product.calls (k : Nat) (A0 : Option Addr) (c0 : Nat) (l0 : List Int) (A1 : Option Addr) (c1 : Nat) (l1 : List Int) (r : Int) (w : World) (hr0 : Kd.C (Kd.int .i64) w A0 l0.length l0) (hc0 : l0.length ≤ c0) (hr1 : Kd.C (Kd.int .i64) w A1 l1.length l1) (hc1 : l1.length ≤ c1) (h : normal_product.f k l0 l1 = some r) :
  Calls Try.prog 72 #[.slice A0 l0.length c0,.slice A1 l1.length c1] w fun e w'=>e = .returned (.int .i64 r)∧Drawn0 w w':=by
 have HR0:=A_ hr0
 have HC0:=A_ hc0
 clear hr0 hc0
 have HR1:=A_ hr1
 have HC1:=A_ hc1
 clear hr1 hc1
 have H : (normal_product.l0 k l0 l1 0 0 0 l0 (l0.length : Int) 0) = some r:=h
 clear h
 have H':=A_ H
 clear H
 go_enter Try.func72,Try.ntmps72
 go_wp2
 repeat (go_quiet (fail);try go_wp2)
 go_loopg [5,6,7,12] k (fun kq v5 v6 v7 v12 w'=>∃ (x5_1 : Int) (x6_1 : Int) (x7_1 : Int) (x12_1 : Int),v5 = .int .i64 x5_1∧v6 = .int .i64 x6_1∧v7 = .int .i64 x7_1∧v12 = .int .i64 x12_1∧Aside0 (normal_product.l0 kq l0 l1 x5_1 x6_1 x7_1 l0 (l0.length : Int) x12_1 = some r)∧Aside0 (kq ≤ k)∧Drawn0 w w')
 case atStart=>exact ⟨(0),(0),(0),(0),(by first|rfl|(simp;done)|(simp [*];done)),(by first|rfl|(simp;done)|(simp [*];done)),(by first|rfl|(simp;done)|(simp [*];done)),(by first|rfl|(simp;done)|(simp [*];done)),H',⟨Nat.le_refl _⟩,by repeat (first|exact Drawn0.refl _|apply Drawn0.step)⟩
 case round =>
  clear H'
  try clear c1
  try clear p2
  obtain ⟨x5_1,x6_1,x7_1,x12_1,rfl,rfl,rfl,rfl,HA,HK1,⟨m1,rfl⟩⟩:=hrel
  cases gk with
  | zero=>exact absurd HA.out (by simp [normal_product.l0])
  | succ k1 =>
   have H:=HA.out
   clear HA
   simp only [normal_product.l0] at H
   by_cases c3 : x12_1 < (l0.length : Int)
   ·
    rw [if_pos c3] at H
    have c3b0 : decide (x12_1 < (l0.length : Int)) = true:=decide_eq_true c3
    clear c3
    by_cases c4 : 0 ≤ x12_1
    ·
     rw [if_pos c4] at H
     have c4b0 : decide (0 ≤ x12_1) = true:=decide_eq_true c4
     clear c4
     by_cases c5 : x12_1 < (l0.length : Int)
     ·
      rw [if_pos c5] at H
      have c5b0 : decide (x12_1 < (l0.length : Int)) = true:=decide_eq_true c5
      clear c5
      by_cases c6 : x12_1 < (l1.length : Int)
      ·
       rw [if_pos c6] at H
       have c6b0 : decide (x12_1 < (l1.length : Int)) = true:=decide_eq_true c6
       clear c6
       have H':=A_ H
       clear H
       have p154 : 0 ≤ (x12_1 : Int):=of_decide_eq_true (by first|(with_reducible assumption)|assumption)
       have q154 : x12_1 < (l0.length : Int):=of_decide_eq_true (by first|(with_reducible assumption)|assumption)
       obtain ⟨ad154,e154,hx154_0⟩:=Kd.at_int HR0.out x12_1 p154 q154
       cases e154
       replace p154:=eq_true p154
       replace q154:=eq_true q154
       have p155 : 0 ≤ (x12_1 : Int):=of_decide_eq_true (by first|(with_reducible assumption)|assumption)
       have q155 : x12_1 < (l1.length : Int):=of_decide_eq_true (by first|(with_reducible assumption)|assumption)
       obtain ⟨ad155,e155,hx155_0⟩:=Kd.at_int HR1.out x12_1 p155 q155
       cases e155
       replace p155:=eq_true p155
       replace q155:=eq_true q155
       have p156 : 0 ≤ (x12_1 : Int):=of_decide_eq_true (by first|(with_reducible assumption)|assumption)
       have q156 : x12_1 < (l1.length : Int):=of_decide_eq_true (by first|(with_reducible assumption)|assumption)
       obtain ⟨ad156,e156,hx156_0⟩:=Kd.at_int HR1.out x12_1 p156 q156
       obtain rfl : ad155 = ad156:=(by injection e156)
       replace p156:=eq_true p156
       replace q156:=eq_true q156
       go_wp2
       repeat (go_quiet (fail);try go_wp2)
       go_roundg k1
       case measure=>have:=HK1.out;omega
       case rel=>exact ⟨(wrap64 (x5_1 + (wrap64 ((rd l0 x12_1) * (rd l1 x12_1))))),(wrap64 (x6_1 + (rd l0 x12_1))),(wrap64 (x7_1 + (rd l1 x12_1))),(wrap64 (x12_1 + 1)),(by first|rfl|(simp;done)|(simp [*];done)),(by first|rfl|(simp;done)|(simp [*];done)),(by first|rfl|(simp;done)|(simp [*];done)),(by first|rfl|(simp;done)|(simp [*];done)),H',⟨by have:=HK1.out;omega⟩,by repeat (first|exact Drawn0.refl _|apply Drawn0.step)⟩
      ·
       rw [if_neg c6] at H
       exact absurd H (by simp)
     ·
      rw [if_neg c5] at H
      exact absurd H (by simp)
    ·
     rw [if_neg c4] at H
     exact absurd H (by simp)
   ·
    rw [if_neg c3] at H
    have c3b0 : decide (x12_1 < (l0.length : Int)) = false:=decide_eq_false c3
    clear c3
    obtain rfl:=Option.some.inj H
    go_wp2
    repeat (go_quiet (fail);try go_wp2)
    go_ret
    exact ⟨by first|rfl|(simp;done)|(simp [*];done),by repeat (first|exact Drawn0.refl _|apply Drawn0.step)⟩

end Go.Proofs.Ytodipcfbgnljeaa.PChannelsGreatest
