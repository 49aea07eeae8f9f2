/- This file proves, function by function, what the Go functions that one law uses compute; most of it was printed by a program (wip/tools of this session, over the kit's print). -/
import Derived.Test.YtodipcfbgnljeaaPChannelsOrderx0
import Derived.Test.YtodipcfbgnljeaaPChannelsOrderx4
import Derived.Test.YtodipcfbgnljeaaPChannelsOrderx6
namespace Go.Proofs.Ytodipcfbgnljeaa.PChannelsOrder
open Go.RowKit Go.Proofs.YtodipcfbgnljeaaW.PrintWords Go.Proofs.YtodipcfbgnljeaaW.PrintLast Go.Proofs.YtodipcfbgnljeaaW.PrintMore
attribute [local go_sem] max2_int min2_int max_two min_two max_three min_three max_four min_four   -- for this text's walks alone
set_option linter.unusedVariables false
set_option linter.unusedSimpArgs false

/-! ### normal_product: function 72 -/
def normal_product.l0 : Nat → List Int → List Int → Int → Int → Int → List Int → Int → Int → Option (Int)
 | 0,_,_,_,_,_,_,_,_=>none
 | k + 1,x0,x1,x5,x6,x7,x10,x11,x12=>if x12 < x11 then (if 0 ≤ x12 then (if x12 < (x10.length : Int) then (if x12 < (x1.length : Int) then (normal_product.l0 k x0 x1 (wrap64 (x5 + (wrap64 ((rd x10 x12) * (rd x1 x12))))) (wrap64 (x6 + (rd x10 x12))) (wrap64 (x7 + (rd x1 x12))) x10 x11 (wrap64 (x12 + 1))) else (none)) else (none)) else (none)) else (some (wrap64 ((wrap64 ((x0.length : Int) * x5)) - (wrap64 (x6 * x7)))))
def normal_product.f (k : Nat) (l0 : List Int) (l1 : List Int) : Option (Int):=normal_product.l0 k l0 l1 0 0 0 l0 (l0.length : Int) 0
theorem normal_product.mono_l : ∀ k,(∀ y0 y1 y2 y3 y4 y5 y6 y7,LeO (normal_product.l0 k y0 y1 y2 y3 y4 y5 y6 y7) (normal_product.l0 (k + 1) y0 y1 y2 y3 y4 y5 y6 y7))
 | 0=>fun _ _ _ _ _ _ _ _ r h=>by simp [normal_product.l0] at h
 | k + 1=>by
  have ih0:=normal_product.mono_l k
  ·
   intro y0 y1 y2 y3 y4 y5 y6 y7
   unfold normal_product.l0
   repeat' first
   | (with_reducible exact ih0 _ _ _ _ _ _ _ _)
   | (with_reducible exact LeO.refl _)
   | (with_reducible exact LeO.none _)
   | (with_reducible refine LeO.ite ?_ ?_)
   | (with_reducible refine LeO.bind ?_ (fun _=>?_))
   | exact ih0 _ _ _ _ _ _ _ _
   | exact LeO.none _
   | refine LeO.ite ?_ ?_
   | refine LeO.bind ?_ (fun _=>?_)
theorem normal_product.mono : ∀ a0 a1 k,LeO (normal_product.f k a0 a1) (normal_product.f (k + 1) a0 a1):=by
 intro a0 a1 k
 have ih0:=normal_product.mono_l k
 unfold normal_product.f
 repeat' first
   | (with_reducible exact ih0 _ _ _ _ _ _ _ _)
   | (with_reducible exact LeO.refl _)
   | (with_reducible exact LeO.none _)
   | (with_reducible refine LeO.ite ?_ ?_)
   | (with_reducible refine LeO.bind ?_ (fun _=>?_))
   | exact ih0 _ _ _ _ _ _ _ _
   | exact LeO.none _
   | refine LeO.ite ?_ ?_
   | refine LeO.bind ?_ (fun _=>?_)
set_option maxHeartbeats 8000000 in
set_option maxRecDepth 100000 in
theorem normal_product.calls (k : Nat) (A0 : Option Addr) (c0 : Nat) (l0 : List Int) (A1 : Option Addr) (c1 : Nat) (l1 : List Int) (r : Int) (w : World) (hr0 : Kd.C (Kd.int .i64) w A0 l0.length l0) (hc0 : l0.length ≤ c0) (hr1 : Kd.C (Kd.int .i64) w A1 l1.length l1) (hc1 : l1.length ≤ c1) (h : normal_product.f k l0 l1 = some r) :
  Calls Try.prog 72 #[.slice A0 l0.length c0,.slice A1 l1.length c1] w fun e w'=>e = .returned (.int .i64 r)∧Drawn0 w w':=by
 have HR0:=A_ hr0
 have HC0:=A_ hc0
 clear hr0 hc0
 have HR1:=A_ hr1
 have HC1:=A_ hc1
 clear hr1 hc1
 have H : (normal_product.l0 k l0 l1 0 0 0 l0 (l0.length : Int) 0) = some r:=h
 clear h
 have H':=A_ H
 clear H
 go_enter Try.func72,Try.ntmps72
 go_wp2
 repeat (go_quiet (fail);try go_wp2)
 go_loopg [5,6,7,12] k (fun kq v5 v6 v7 v12 w'=>∃ (x5_1 : Int) (x6_1 : Int) (x7_1 : Int) (x12_1 : Int),v5 = .int .i64 x5_1∧v6 = .int .i64 x6_1∧v7 = .int .i64 x7_1∧v12 = .int .i64 x12_1∧Aside0 (normal_product.l0 kq l0 l1 x5_1 x6_1 x7_1 l0 (l0.length : Int) x12_1 = some r)∧Aside0 (kq ≤ k)∧Drawn0 w w')
 case atStart=>exact ⟨(0),(0),(0),(0),(by first|rfl|(simp;done)|(simp [*];done)),(by first|rfl|(simp;done)|(simp [*];done)),(by first|rfl|(simp;done)|(simp [*];done)),(by first|rfl|(simp;done)|(simp [*];done)),H',⟨Nat.le_refl _⟩,by repeat (first|exact Drawn0.refl _|apply Drawn0.step)⟩
 case round =>
  clear H'
  try clear c1
  try clear p2
  obtain ⟨x5_1,x6_1,x7_1,x12_1,rfl,rfl,rfl,rfl,HA,HK1,⟨m1,rfl⟩⟩:=hrel
  cases gk with
  | zero=>exact absurd HA.out (by simp [normal_product.l0])
  | succ k1 =>
   have H:=HA.out
   clear HA
   simp only [normal_product.l0] at H
   by_cases c3 : x12_1 < (l0.length : Int)
   ·
    rw [if_pos c3] at H
    have c3b0 : decide (x12_1 < (l0.length : Int)) = true:=decide_eq_true c3
    clear c3
    by_cases c4 : 0 ≤ x12_1
    ·
     rw [if_pos c4] at H
     have c4b0 : decide (0 ≤ x12_1) = true:=decide_eq_true c4
     clear c4
     by_cases c5 : x12_1 < (l0.length : Int)
     ·
      rw [if_pos c5] at H
      have c5b0 : decide (x12_1 < (l0.length : Int)) = true:=decide_eq_true c5
      clear c5
      by_cases c6 : x12_1 < (l1.length : Int)
      ·
       rw [if_pos c6] at H
       have c6b0 : decide (x12_1 < (l1.length : Int)) = true:=decide_eq_true c6
       clear c6
       have H':=A_ H
       clear H
       have p286 : 0 ≤ (x12_1 : Int):=of_decide_eq_true (by first|(with_reducible assumption)|assumption)
       have q286 : x12_1 < (l0.length : Int):=of_decide_eq_true (by first|(with_reducible assumption)|assumption)
       obtain ⟨ad286,e286,hx286_0⟩:=Kd.at_int HR0.out x12_1 p286 q286
       cases e286
       replace p286:=eq_true p286
       replace q286:=eq_true q286
       have p287 : 0 ≤ (x12_1 : Int):=of_decide_eq_true (by first|(with_reducible assumption)|assumption)
       have q287 : x12_1 < (l1.length : Int):=of_decide_eq_true (by first|(with_reducible assumption)|assumption)
       obtain ⟨ad287,e287,hx287_0⟩:=Kd.at_int HR1.out x12_1 p287 q287
       cases e287
       replace p287:=eq_true p287
       replace q287:=eq_true q287
       have p288 : 0 ≤ (x12_1 : Int):=of_decide_eq_true (by first|(with_reducible assumption)|assumption)
       have q288 : x12_1 < (l1.length : Int):=of_decide_eq_true (by first|(with_reducible assumption)|assumption)
       obtain ⟨ad288,e288,hx288_0⟩:=Kd.at_int HR1.out x12_1 p288 q288
       obtain rfl : ad287 = ad288:=(by injection e288)
       replace p288:=eq_true p288
       replace q288:=eq_true q288
       go_wp2
       repeat (go_quiet (fail);try go_wp2)
       go_roundg k1
       case measure=>have:=HK1.out;omega
       case rel=>exact ⟨(wrap64 (x5_1 + (wrap64 ((rd l0 x12_1) * (rd l1 x12_1))))),(wrap64 (x6_1 + (rd l0 x12_1))),(wrap64 (x7_1 + (rd l1 x12_1))),(wrap64 (x12_1 + 1)),(by first|rfl|(simp;done)|(simp [*];done)),(by first|rfl|(simp;done)|(simp [*];done)),(by first|rfl|(simp;done)|(simp [*];done)),(by first|rfl|(simp;done)|(simp [*];done)),H',⟨by have:=HK1.out;omega⟩,by repeat (first|exact Drawn0.refl _|apply Drawn0.step)⟩
      ·
       rw [if_neg c6] at H
       exact absurd H (by simp)
     ·
      rw [if_neg c5] at H
      exact absurd H (by simp)
    ·
     rw [if_neg c4] at H
     exact absurd H (by simp)
   ·
    rw [if_neg c3] at H
    have c3b0 : decide (x12_1 < (l0.length : Int)) = false:=decide_eq_false c3
    clear c3
    obtain rfl:=Option.some.inj H
    go_wp2
    repeat (go_quiet (fail);try go_wp2)
    go_ret
    exact ⟨by first|rfl|(simp;done)|(simp [*];done),by repeat (first|exact Drawn0.refl _|apply Drawn0.step)⟩

/-! ### normal_gap: function 62 -/
def normal_gap.j0 : Nat → List Int → List Int → Int → Int → Bool → Option (Int × Int × Int)
 | 0,_,_,_,_,_=>none
 | k + 1,x0,x1,x6,x7,x13=>if x13 = true then ((ratio_Make.f k 0 1).bind fun bt292=>(some (bt292.1,bt292.2.1,bt292.2.2))) else (if x6 = 0 then ((ratio_Make.f k 1 1).bind fun bt295=>(some (bt295.1,bt295.2.1,bt295.2.2))) else (if x7 = 0 then ((ratio_Make.f k 1 1).bind fun bt298=>(some (bt298.1,bt298.2.1,bt298.2.2))) else ((normal_product.f k x0 x1).bind fun t301=>(if t301 < 0 then ((ratio_Make.f k (wrap64 ((wrap64 (x6 * x7)) + (wrap64 (t301 * t301)))) (wrap64 (x6 * x7))).bind fun bt302=>(some (bt302.1,bt302.2.1,bt302.2.2))) else ((ratio_Make.f k (wrap64 ((wrap64 (x6 * x7)) - (wrap64 (t301 * t301)))) (wrap64 (x6 * x7))).bind fun bt305=>(some (bt305.1,bt305.2.1,bt305.2.2)))))))
def normal_gap.f (k : Nat) (l0 : List Int) (l1 : List Int) : Option (Int × Int × Int):=(normal_variance.f k l0).bind fun t290=>((normal_variance.f k l1).bind fun t291=>(if t290 = 0 then (normal_gap.j0 k l0 l1 t290 t291 (t291 == 0)) else (normal_gap.j0 k l0 l1 t290 t291 false)))
theorem normal_gap.mono_l : ∀ k,(∀ y0 y1 y2 y3 y4,LeO (normal_gap.j0 k y0 y1 y2 y3 y4) (normal_gap.j0 (k + 1) y0 y1 y2 y3 y4))
 | 0=>fun _ _ _ _ _ r h=>by simp [normal_gap.j0] at h
 | k + 1=>by
  have ih0:=normal_gap.mono_l k
  ·
   intro y0 y1 y2 y3 y4
   unfold normal_gap.j0
   repeat' first
   | (with_reducible exact ih0 _ _ _ _ _)
   | (with_reducible exact normal_product.mono _ _ _)
   | (with_reducible exact normal_variance.mono _ _)
   | (with_reducible exact ratio_Make.mono _ _ _)
   | (with_reducible exact LeO.refl _)
   | (with_reducible exact LeO.none _)
   | (with_reducible refine LeO.ite ?_ ?_)
   | (with_reducible refine LeO.bind ?_ (fun _=>?_))
   | exact ih0 _ _ _ _ _
   | exact normal_product.mono _ _ _
   | exact normal_variance.mono _ _
   | exact ratio_Make.mono _ _ _
   | exact LeO.none _
   | refine LeO.ite ?_ ?_
   | refine LeO.bind ?_ (fun _=>?_)
theorem normal_gap.mono : ∀ a0 a1 k,LeO (normal_gap.f k a0 a1) (normal_gap.f (k + 1) a0 a1):=by
 intro a0 a1 k
 have ih0:=normal_gap.mono_l k
 unfold normal_gap.f
 repeat' first
   | (with_reducible exact ih0 _ _ _ _ _)
   | (with_reducible exact normal_product.mono _ _ _)
   | (with_reducible exact normal_variance.mono _ _)
   | (with_reducible exact ratio_Make.mono _ _ _)
   | (with_reducible exact LeO.refl _)
   | (with_reducible exact LeO.none _)
   | (with_reducible refine LeO.ite ?_ ?_)
   | (with_reducible refine LeO.bind ?_ (fun _=>?_))
   | exact ih0 _ _ _ _ _
   | exact normal_product.mono _ _ _
   | exact normal_variance.mono _ _
   | exact ratio_Make.mono _ _ _
   | exact LeO.none _
   | refine LeO.ite ?_ ?_
   | refine LeO.bind ?_ (fun _=>?_)
set_option maxHeartbeats 8000000 in
set_option maxRecDepth 100000 in
theorem normal_gap.calls (k : Nat) (A0 : Option Addr) (c0 : Nat) (l0 : List Int) (A1 : Option Addr) (c1 : Nat) (l1 : List Int) (r1 : Int) (r2 : Int) (r3 : Int) (w : World) (hr0 : Kd.C (Kd.int .i64) w A0 l0.length l0) (hc0 : l0.length ≤ c0) (hr1 : Kd.C (Kd.int .i64) w A1 l1.length l1) (hc1 : l1.length ≤ c1) (h : normal_gap.f k l0 l1 = some (r1,r2,r3)) :
  Calls Try.prog 62 #[.slice A0 l0.length c0,.slice A1 l1.length c1] w fun e w'=>e = .returned (.tuple #[.agg #[.int .i64 r1,.int .i64 r2],.int .i64 r3])∧Below w.heap.size w w':=by
 have hu36:=Try.underlying36
 have HR0:=A_ hr0
 have HC0:=A_ hc0
 clear hr0 hc0
 have HR1:=A_ hr1
 have HC1:=A_ hc1
 clear hr1 hc1
 have HB:=A_ (Below.refl w.heap.size w)
 have H : ((normal_variance.f k l0).bind fun t290=>((normal_variance.f k l1).bind fun t291=>(if t290 = 0 then (normal_gap.j0 k l0 l1 t290 t291 (t291 == 0)) else (normal_gap.j0 k l0 l1 t290 t291 false)))) = some (r1,r2,r3):=h
 clear h
 replace H:=Option.bind_eq_some_iff.mp H
 obtain ⟨t290,A30,H⟩:=H
 replace H : ((normal_variance.f k l1).bind fun t291=>(if t290 = 0 then (normal_gap.j0 k l0 l1 t290 t291 (t291 == 0)) else (normal_gap.j0 k l0 l1 t290 t291 false))) = some (r1,r2,r3):=H
 have A3:=A_ A30
 clear A30
 replace H:=Option.bind_eq_some_iff.mp H
 obtain ⟨t291,A40,H⟩:=H
 replace H : (if t290 = 0 then (normal_gap.j0 k l0 l1 t290 t291 (t291 == 0)) else (normal_gap.j0 k l0 l1 t290 t291 false)) = some (r1,r2,r3):=H
 have A4:=A_ A40
 clear A40
 have HC5:=A_ H
 clear H
 go_enter Try.func62,Try.ntmps62
 go_upto_region 2 with (first|((with_reducible refine gate_dst (N:=4) rfl ?_);refine box_event ?hg (N:=4) ?hd (cs:=#[.int .i64 0,.int .i64 0]) (t:=36) ?hr ?_;(case hd=>rfl);(case hg=>rfl);(case hr=>first|(go_simp;done)|(go_simp;rfl));intro gb289 hg w6 hbox hb;have n0_:=A_ (below_step (by repeat (first|(with_reducible first|exact HB.out|apply ba|apply bb|apply bc)|exact HB.out)) hb);have n1_:=A_ (hbox);have n2_:=A_ ((by rw [hg];exact (below_size (by repeat (first|(with_reducible first|exact HB.out|apply ba|apply bb|apply bc)|exact HB.out))) : w.heap.size ≤ gb289));have n3_:=A_ ((by rw [hg];exact (below_size (by repeat (first|(with_reducible first|exact HB.out|apply ba|apply bb|apply bc)|exact HB.out))) : w.heap.size ≤ gb289));clear HB;have HB:=n0_;have BK289:=n1_;have GW289:=n2_;have GE289:=n3_;clear n0_ n1_ n2_ n3_;clear hb hbox hg)|((with_reducible refine gate_callee (f:=70) rfl ?_);refine goesL_ (some 10) rfl rfl Try.func70 (by kernel_rfl) rfl #[.slice A0 l0.length c0] rfl (by (try simp only [List.map_toArray,List.map_cons,List.map_nil]);first|done|rfl|(simp only [List.length_drop,List.length_take];rfl)) ?_;(with_reducible refine (normal_variance.calls k _ _ l0 t290 _ ?side1 ?side2 A3.out).mono ?_);(case side1=>repeat (first|exact (cl HR0.out HB.out)|(with_reducible refine ca ?_ _)|(with_reducible refine cb ?_ _)|(with_reducible refine cc ?_)));(case side2=>exact HC0.out);rintro e w7 ⟨rfl,hb⟩;refine ⟨_,rfl,?_⟩;have n0_:=A_ (blk_below (g:=gb289) (o:=.cells #[.int .i64 0,.int .i64 0] 36 (0,0)) (by (with_reducible repeat (first|refine blk_drewN ?_ _|refine blk_drew ?_|refine blk_alloc ?_ _));exact BK289.out) hb);have n1_:=A_ (below_step (by repeat (first|(with_reducible first|exact HB.out|apply ba|apply bb|apply bc|refine below_set ?_ GE289.out)|exact HB.out)) hb);clear BK289;clear HB;have BK289:=n0_;have HB:=n1_;clear n0_ n1_;(try clear hb);(try clear hb2);(try clear hk);(try clear hi))|((with_reducible refine gate_callee (f:=70) rfl ?_);refine goesL_ (some 12) rfl rfl Try.func70 (by kernel_rfl) rfl #[.slice A1 l1.length c1] rfl (by (try simp only [List.map_toArray,List.map_cons,List.map_nil]);first|done|rfl|(simp only [List.length_drop,List.length_take];rfl)) ?_;(with_reducible refine (normal_variance.calls k _ _ l1 t291 _ ?side1 ?side2 A4.out).mono ?_);(case side1=>repeat (first|exact (cl HR1.out HB.out)|(with_reducible refine ca ?_ _)|(with_reducible refine cb ?_ _)|(with_reducible refine cc ?_)));(case side2=>exact HC1.out);rintro e w8 ⟨rfl,hb⟩;refine ⟨_,rfl,?_⟩;have n0_:=A_ (blk_below (g:=gb289) (o:=.cells #[.int .i64 0,.int .i64 0] 36 (0,0)) (by (with_reducible repeat (first|refine blk_drewN ?_ _|refine blk_drew ?_|refine blk_alloc ?_ _));exact BK289.out) hb);have n1_:=A_ (below_step (by repeat (first|(with_reducible first|exact HB.out|apply ba|apply bb|apply bc|refine below_set ?_ GE289.out)|exact HB.out)) hb);clear BK289;clear HB;have BK289:=n0_;have HB:=n1_;clear n0_ n1_;(try clear hb);(try clear hb2);(try clear hk);(try clear hi)))
 (try simp only [Act.put,List.setIfInBounds_toArray,List.set_cons_zero,List.set_cons_succ])
 go_cut [13] (fun v13 wc=>∃ (kq : Nat) (x13_4 : Bool),v13 = .bool x13_4∧Aside0 (normal_gap.j0 kq l0 l1 t290 t291 x13_4 = some (r1,r2,r3))∧Aside0 (kq ≤ k)∧Aside0 (wc.heap[gb289]? = some (.cells #[.int .i64 0,.int .i64 0] 36 (0,0)))∧Aside0 (Below w.heap.size w wc))
 case first =>
  have H:=HC5.out
  clear HC5
  by_cases c9 : t290 = 0
  ·
   rw [if_pos c9] at H
   have c9b0 : (t290 == 0) = true:=beq_iff_eq.mpr c9
   have c9b1 : (t290 != 0) = false:=bne_eq_false_iff_eq.mpr c9
   clear c9
   (first|rw [c9b0]|(simp only [i64_w,i32_w];rw [c9b0])|skip)
   have H':=A_ H
   clear H
   go_wp2
   go_meet
   case rel=>exact ⟨_,((t291 == 0)),(by first|rfl|(simp;done)|(simp [*];done)),H',⟨by first|omega|exact Nat.le_refl _⟩,⟨by (with_reducible repeat (first|refine blk_drewN ?_ _|refine blk_drew ?_|refine blk_alloc ?_ _));exact BK289.out⟩,⟨by repeat (first|(with_reducible first|exact HB.out|apply ba|apply bb|apply bc|refine below_set ?_ GE289.out)|exact HB.out)⟩⟩
  ·
   rw [if_neg c9] at H
   have c9b0 : (t290 == 0) = false:=beq_eq_false_iff_ne.mpr c9
   have c9b1 : (t290 != 0) = true:=bne_iff_ne.mpr c9
   (first|rw [c9b0]|(simp only [i64_w,i32_w];rw [c9b0])|skip)
   have H':=A_ H
   clear H
   go_wp2
   go_meet
   case rel=>exact ⟨_,(false),(by first|rfl|(simp;done)|(simp [*];done)),H',⟨by first|omega|exact Nat.le_refl _⟩,⟨by (with_reducible repeat (first|refine blk_drewN ?_ _|refine blk_drew ?_|refine blk_alloc ?_ _));exact BK289.out⟩,⟨by repeat (first|(with_reducible first|exact HB.out|apply ba|apply bb|apply bc|refine below_set ?_ GE289.out)|exact HB.out)⟩⟩
 case rest =>
  clear HC5
  try clear c1
  try clear p2
  try clear c6
  try clear c7
  try clear c9
  try clear c9b0
  try clear c9b1
  obtain ⟨kq,x13_4,rfl,HA,HJ4,BK289,HB⟩:=hcut
  cases kq with
  | zero=>exact absurd HA.out (by simp [normal_gap.j0])
  | succ kj4 =>
   have H:=HA.out
   clear HA
   simp only [normal_gap.j0] at H
   by_cases c10 : x13_4 = true
   ·
    subst c10
    have H1 : ((ratio_Make.f kj4 0 1).bind fun bt292=>(some (bt292.1,bt292.2.1,bt292.2.2))) = some (r1,r2,r3):=by rw [if_pos rfl] at H;exact H
    clear H
    have H:=H1
    clear H1
    replace H:=Option.bind_eq_some_iff.mp H
    obtain ⟨⟨t292,t293,t294⟩,A110,H⟩:=H
    replace H : (some (t292,t293,t294)) = some (r1,r2,r3):=H
    have A11:=A_ A110
    clear A110
    simp only [Option.some.injEq,Prod.mk.injEq] at H
    obtain ⟨rfl,rfl,rfl⟩:=H
    go_wp2_with (first|((with_reducible refine gate_callee (f:=71) rfl ?_);refine goesL_ (some 20) rfl rfl Try.func71 (by kernel_rfl) rfl #[.int .i64 0,.int .i64 1] rfl (by (try simp only [List.map_toArray,List.map_cons,List.map_nil]);first|done|rfl|(simp only [List.length_drop,List.length_take];rfl)) ?_;(with_reducible refine (ratio_Make.calls kj4 0 1 t292 t293 t294 _ A11.out).mono ?_);rintro e w12 ⟨rfl,hb⟩;refine ⟨_,rfl,?_⟩;have n0_:=A_ (blk_below (g:=gb289) (o:=.cells #[.int .i64 0,.int .i64 0] 36 (0,0)) (by (with_reducible repeat (first|refine blk_drewN ?_ _|refine blk_drew ?_|refine blk_alloc ?_ _));exact BK289.out) hb);have n1_:=A_ (below_step (by repeat (first|(with_reducible first|exact HB.out|apply ba|apply bb|apply bc|refine below_set ?_ GE289.out)|exact HB.out)) hb);clear BK289;clear HB;have BK289:=n0_;have HB:=n1_;clear n0_ n1_;(try clear hb);(try clear hb2);(try clear hk);(try clear hi);have hcz13_0 : w12.cell? ⟨gb289,0,none⟩ = some (.int .i64 0):=(blk_cell BK289.out 0).trans rfl;have hcz13_1 : w12.cell? ⟨gb289,1,none⟩ = some (.int .i64 0):=(blk_cell BK289.out 1).trans rfl;have hfz13_0:=blk_frozen BK289.out 0;have hfz13_1:=blk_frozen BK289.out 1))
    refine bodyPost_ret (results_ct rfl _ _ gb289 36 #[.int .i64 t292,.int .i64 t293] (0,0) _ rfl (by (with_reducible repeat (first|refine blk_drewN ?_ _|refine blk_drew ?_|refine blk_alloc ?_ _));refine blk_put (cs:=#[.int .i64 t292,.int .i64 0]) ?_ 1 _ rfl;(with_reducible repeat (first|refine blk_drewN ?_ _|refine blk_drew ?_|refine blk_alloc ?_ _));refine blk_put (cs:=#[.int .i64 0,.int .i64 0]) ?_ 0 _ rfl;(with_reducible repeat (first|refine blk_drewN ?_ _|refine blk_drew ?_|refine blk_alloc ?_ _));exact BK289.out) Try.underlying36 rfl (by kernel_rfl)) rfl ?_
    exact ⟨by first|rfl|(simp [errW_none,errW_some] <;> rfl)|(simp [*,errW_none,errW_some] <;> rfl),by repeat (first|(with_reducible first|exact HB.out|apply ba|apply bb|apply bc|refine below_set ?_ GE289.out)|exact HB.out)⟩
   ·
    replace c10:=Bool.eq_false_iff.mpr c10
    subst c10
    have H1 : (if t290 = 0 then ((ratio_Make.f kj4 1 1).bind fun bt295=>(some (bt295.1,bt295.2.1,bt295.2.2))) else (if t291 = 0 then ((ratio_Make.f kj4 1 1).bind fun bt298=>(some (bt298.1,bt298.2.1,bt298.2.2))) else ((normal_product.f kj4 l0 l1).bind fun t301=>(if t301 < 0 then ((ratio_Make.f kj4 (wrap64 ((wrap64 (t290 * t291)) + (wrap64 (t301 * t301)))) (wrap64 (t290 * t291))).bind fun bt302=>(some (bt302.1,bt302.2.1,bt302.2.2))) else ((ratio_Make.f kj4 (wrap64 ((wrap64 (t290 * t291)) - (wrap64 (t301 * t301)))) (wrap64 (t290 * t291))).bind fun bt305=>(some (bt305.1,bt305.2.1,bt305.2.2))))))) = some (r1,r2,r3):=by rw [if_neg (show ¬ (false = true) by decide)] at H;exact H
    clear H
    have H:=H1
    clear H1
    by_cases c14 : t290 = 0
    ·
     rw [if_pos c14] at H
     have c14b0 : (t290 == 0) = true:=beq_iff_eq.mpr c14
     have c14b1 : (t290 != 0) = false:=bne_eq_false_iff_eq.mpr c14
     clear c14
     replace H:=Option.bind_eq_some_iff.mp H
     obtain ⟨⟨t295,t296,t297⟩,A150,H⟩:=H
     replace H : (some (t295,t296,t297)) = some (r1,r2,r3):=H
     have A15:=A_ A150
     clear A150
     simp only [Option.some.injEq,Prod.mk.injEq] at H
     obtain ⟨rfl,rfl,rfl⟩:=H
     go_wp2_with (first|((with_reducible refine gate_callee (f:=71) rfl ?_);refine goesL_ (some 30) rfl rfl Try.func71 (by kernel_rfl) rfl #[.int .i64 1,.int .i64 1] rfl (by (try simp only [List.map_toArray,List.map_cons,List.map_nil]);first|done|rfl|(simp only [List.length_drop,List.length_take];rfl)) ?_;(with_reducible refine (ratio_Make.calls kj4 1 1 t295 t296 t297 _ A15.out).mono ?_);rintro e w16 ⟨rfl,hb⟩;refine ⟨_,rfl,?_⟩;have n0_:=A_ (blk_below (g:=gb289) (o:=.cells #[.int .i64 0,.int .i64 0] 36 (0,0)) (by (with_reducible repeat (first|refine blk_drewN ?_ _|refine blk_drew ?_|refine blk_alloc ?_ _));exact BK289.out) hb);have n1_:=A_ (below_step (by repeat (first|(with_reducible first|exact HB.out|apply ba|apply bb|apply bc|refine below_set ?_ GE289.out)|exact HB.out)) hb);clear BK289;clear HB;have BK289:=n0_;have HB:=n1_;clear n0_ n1_;(try clear hb);(try clear hb2);(try clear hk);(try clear hi);have hcz17_0 : w16.cell? ⟨gb289,0,none⟩ = some (.int .i64 0):=(blk_cell BK289.out 0).trans rfl;have hcz17_1 : w16.cell? ⟨gb289,1,none⟩ = some (.int .i64 0):=(blk_cell BK289.out 1).trans rfl;have hfz17_0:=blk_frozen BK289.out 0;have hfz17_1:=blk_frozen BK289.out 1))
     refine bodyPost_ret (results_ct rfl _ _ gb289 36 #[.int .i64 t295,.int .i64 t296] (0,0) _ rfl (by (with_reducible repeat (first|refine blk_drewN ?_ _|refine blk_drew ?_|refine blk_alloc ?_ _));refine blk_put (cs:=#[.int .i64 t295,.int .i64 0]) ?_ 1 _ rfl;(with_reducible repeat (first|refine blk_drewN ?_ _|refine blk_drew ?_|refine blk_alloc ?_ _));refine blk_put (cs:=#[.int .i64 0,.int .i64 0]) ?_ 0 _ rfl;(with_reducible repeat (first|refine blk_drewN ?_ _|refine blk_drew ?_|refine blk_alloc ?_ _));exact BK289.out) Try.underlying36 rfl (by kernel_rfl)) rfl ?_
     exact ⟨by first|rfl|(simp [errW_none,errW_some] <;> rfl)|(simp [*,errW_none,errW_some] <;> rfl),by repeat (first|(with_reducible first|exact HB.out|apply ba|apply bb|apply bc|refine below_set ?_ GE289.out)|exact HB.out)⟩
    ·
     rw [if_neg c14] at H
     have c14b0 : (t290 == 0) = false:=beq_eq_false_iff_ne.mpr c14
     have c14b1 : (t290 != 0) = true:=bne_iff_ne.mpr c14
     by_cases c18 : t291 = 0
     ·
      rw [if_pos c18] at H
      have c18b0 : (t291 == 0) = true:=beq_iff_eq.mpr c18
      have c18b1 : (t291 != 0) = false:=bne_eq_false_iff_eq.mpr c18
      clear c18
      replace H:=Option.bind_eq_some_iff.mp H
      obtain ⟨⟨t298,t299,t300⟩,A190,H⟩:=H
      replace H : (some (t298,t299,t300)) = some (r1,r2,r3):=H
      have A19:=A_ A190
      clear A190
      simp only [Option.some.injEq,Prod.mk.injEq] at H
      obtain ⟨rfl,rfl,rfl⟩:=H
      go_wp2_with (first|((with_reducible refine gate_callee (f:=71) rfl ?_);refine goesL_ (some 30) rfl rfl Try.func71 (by kernel_rfl) rfl #[.int .i64 1,.int .i64 1] rfl (by (try simp only [List.map_toArray,List.map_cons,List.map_nil]);first|done|rfl|(simp only [List.length_drop,List.length_take];rfl)) ?_;(with_reducible refine (ratio_Make.calls kj4 1 1 t298 t299 t300 _ A19.out).mono ?_);rintro e w20 ⟨rfl,hb⟩;refine ⟨_,rfl,?_⟩;have n0_:=A_ (blk_below (g:=gb289) (o:=.cells #[.int .i64 0,.int .i64 0] 36 (0,0)) (by (with_reducible repeat (first|refine blk_drewN ?_ _|refine blk_drew ?_|refine blk_alloc ?_ _));exact BK289.out) hb);have n1_:=A_ (below_step (by repeat (first|(with_reducible first|exact HB.out|apply ba|apply bb|apply bc|refine below_set ?_ GE289.out)|exact HB.out)) hb);clear BK289;clear HB;have BK289:=n0_;have HB:=n1_;clear n0_ n1_;(try clear hb);(try clear hb2);(try clear hk);(try clear hi);have hcz21_0 : w20.cell? ⟨gb289,0,none⟩ = some (.int .i64 0):=(blk_cell BK289.out 0).trans rfl;have hcz21_1 : w20.cell? ⟨gb289,1,none⟩ = some (.int .i64 0):=(blk_cell BK289.out 1).trans rfl;have hfz21_0:=blk_frozen BK289.out 0;have hfz21_1:=blk_frozen BK289.out 1))
      refine bodyPost_ret (results_ct rfl _ _ gb289 36 #[.int .i64 t298,.int .i64 t299] (0,0) _ rfl (by (with_reducible repeat (first|refine blk_drewN ?_ _|refine blk_drew ?_|refine blk_alloc ?_ _));refine blk_put (cs:=#[.int .i64 t298,.int .i64 0]) ?_ 1 _ rfl;(with_reducible repeat (first|refine blk_drewN ?_ _|refine blk_drew ?_|refine blk_alloc ?_ _));refine blk_put (cs:=#[.int .i64 0,.int .i64 0]) ?_ 0 _ rfl;(with_reducible repeat (first|refine blk_drewN ?_ _|refine blk_drew ?_|refine blk_alloc ?_ _));exact BK289.out) Try.underlying36 rfl (by kernel_rfl)) rfl ?_
      exact ⟨by first|rfl|(simp [errW_none,errW_some] <;> rfl)|(simp [*,errW_none,errW_some] <;> rfl),by repeat (first|(with_reducible first|exact HB.out|apply ba|apply bb|apply bc|refine below_set ?_ GE289.out)|exact HB.out)⟩
     ·
      rw [if_neg c18] at H
      have c18b0 : (t291 == 0) = false:=beq_eq_false_iff_ne.mpr c18
      have c18b1 : (t291 != 0) = true:=bne_iff_ne.mpr c18
      replace H:=Option.bind_eq_some_iff.mp H
      obtain ⟨t301,A220,H⟩:=H
      replace H : (if t301 < 0 then ((ratio_Make.f kj4 (wrap64 ((wrap64 (t290 * t291)) + (wrap64 (t301 * t301)))) (wrap64 (t290 * t291))).bind fun bt302=>(some (bt302.1,bt302.2.1,bt302.2.2))) else ((ratio_Make.f kj4 (wrap64 ((wrap64 (t290 * t291)) - (wrap64 (t301 * t301)))) (wrap64 (t290 * t291))).bind fun bt305=>(some (bt305.1,bt305.2.1,bt305.2.2)))) = some (r1,r2,r3):=H
      have A22:=A_ A220
      clear A220
      by_cases c23 : t301 < 0
      ·
       rw [if_pos c23] at H
       have c23b0 : decide (t301 < 0) = true:=decide_eq_true c23
       clear c23
       replace H:=Option.bind_eq_some_iff.mp H
       obtain ⟨⟨t302,t303,t304⟩,A240,H⟩:=H
       replace H : (some (t302,t303,t304)) = some (r1,r2,r3):=H
       have A24:=A_ A240
       clear A240
       simp only [Option.some.injEq,Prod.mk.injEq] at H
       obtain ⟨rfl,rfl,rfl⟩:=H
       go_wp2_with (first|((with_reducible refine gate_callee (f:=72) rfl ?_);refine goesL_ (some 35) rfl rfl Try.func72 (by kernel_rfl) rfl #[.slice A0 l0.length c0,.slice A1 l1.length c1] rfl (by (try simp only [List.map_toArray,List.map_cons,List.map_nil]);first|done|rfl|(simp only [List.length_drop,List.length_take];rfl)) ?_;(with_reducible refine (normal_product.calls kj4 _ _ l0 _ _ l1 t301 _ ?side1 ?side2 ?side3 ?side4 A22.out).mono ?_);(case side1=>repeat (first|exact (cl HR0.out HB.out)|(with_reducible refine ca ?_ _)|(with_reducible refine cb ?_ _)|(with_reducible refine cc ?_)));(case side2=>exact HC0.out);(case side3=>repeat (first|exact (cl HR1.out HB.out)|(with_reducible refine ca ?_ _)|(with_reducible refine cb ?_ _)|(with_reducible refine cc ?_)));(case side4=>exact HC1.out);rintro e w' ⟨rfl,⟨nd,rfl⟩⟩;refine ⟨_,rfl,?_⟩;(try (rw [drewN_self wc];generalize hq_ : World.drewN wc _ = wc;have n0_ : Aside0 (wc.heap[gb289]? = some (.cells #[.int .i64 0,.int .i64 0] 36 (0,0))):=⟨by rw [← hq_];exact (by (with_reducible repeat (first|refine blk_drewN ?_ _|refine blk_drew ?_|refine blk_alloc ?_ _));exact BK289.out)⟩;have n1_ : Aside0 (Below w.heap.size w wc):=⟨by rw [← hq_];exact (by repeat (first|(with_reducible first|exact HB.out|apply ba|apply bb|apply bc|refine below_set ?_ GE289.out)|exact HB.out))⟩;clear BK289 HB hq_;have BK289:=n0_;have HB:=n1_;clear n0_ n1_)))|((with_reducible refine gate_callee (f:=71) rfl ?_);refine goesL_ (some 48) rfl rfl Try.func71 (by kernel_rfl) rfl #[.int .i64 (wrap64 ((wrap64 (t290 * t291)) + (wrap64 (t301 * t301)))),.int .i64 (wrap64 (t290 * t291))] rfl (by (try simp only [List.map_toArray,List.map_cons,List.map_nil]);first|done|rfl|(simp only [List.length_drop,List.length_take];rfl)) ?_;(with_reducible refine (ratio_Make.calls kj4 (wrap64 ((wrap64 (t290 * t291)) + (wrap64 (t301 * t301)))) (wrap64 (t290 * t291)) t302 t303 t304 _ A24.out).mono ?_);rintro e w25 ⟨rfl,hb⟩;refine ⟨_,rfl,?_⟩;have n0_:=A_ (blk_below (g:=gb289) (o:=.cells #[.int .i64 0,.int .i64 0] 36 (0,0)) (by (with_reducible repeat (first|refine blk_drewN ?_ _|refine blk_drew ?_|refine blk_alloc ?_ _));exact BK289.out) hb);have n1_:=A_ (below_step (by repeat (first|(with_reducible first|exact HB.out|apply ba|apply bb|apply bc|refine below_set ?_ GE289.out)|exact HB.out)) hb);clear BK289;clear HB;have BK289:=n0_;have HB:=n1_;clear n0_ n1_;(try clear hb);(try clear hb2);(try clear hk);(try clear hi);have hcz26_0 : w25.cell? ⟨gb289,0,none⟩ = some (.int .i64 0):=(blk_cell BK289.out 0).trans rfl;have hcz26_1 : w25.cell? ⟨gb289,1,none⟩ = some (.int .i64 0):=(blk_cell BK289.out 1).trans rfl;have hfz26_0:=blk_frozen BK289.out 0;have hfz26_1:=blk_frozen BK289.out 1))
       refine bodyPost_ret (results_ct rfl _ _ gb289 36 #[.int .i64 t302,.int .i64 t303] (0,0) _ rfl (by (with_reducible repeat (first|refine blk_drewN ?_ _|refine blk_drew ?_|refine blk_alloc ?_ _));refine blk_put (cs:=#[.int .i64 t302,.int .i64 0]) ?_ 1 _ rfl;(with_reducible repeat (first|refine blk_drewN ?_ _|refine blk_drew ?_|refine blk_alloc ?_ _));refine blk_put (cs:=#[.int .i64 0,.int .i64 0]) ?_ 0 _ rfl;(with_reducible repeat (first|refine blk_drewN ?_ _|refine blk_drew ?_|refine blk_alloc ?_ _));exact BK289.out) Try.underlying36 rfl (by kernel_rfl)) rfl ?_
       exact ⟨by first|rfl|(simp [errW_none,errW_some] <;> rfl)|(simp [*,errW_none,errW_some] <;> rfl),by repeat (first|(with_reducible first|exact HB.out|apply ba|apply bb|apply bc|refine below_set ?_ GE289.out)|exact HB.out)⟩
      ·
       rw [if_neg c23] at H
       have c23b0 : decide (t301 < 0) = false:=decide_eq_false c23
       clear c23
       replace H:=Option.bind_eq_some_iff.mp H
       obtain ⟨⟨t305,t306,t307⟩,A270,H⟩:=H
       replace H : (some (t305,t306,t307)) = some (r1,r2,r3):=H
       have A27:=A_ A270
       clear A270
       simp only [Option.some.injEq,Prod.mk.injEq] at H
       obtain ⟨rfl,rfl,rfl⟩:=H
       go_wp2_with (first|((with_reducible refine gate_callee (f:=72) rfl ?_);refine goesL_ (some 35) rfl rfl Try.func72 (by kernel_rfl) rfl #[.slice A0 l0.length c0,.slice A1 l1.length c1] rfl (by (try simp only [List.map_toArray,List.map_cons,List.map_nil]);first|done|rfl|(simp only [List.length_drop,List.length_take];rfl)) ?_;(with_reducible refine (normal_product.calls kj4 _ _ l0 _ _ l1 t301 _ ?side1 ?side2 ?side3 ?side4 A22.out).mono ?_);(case side1=>repeat (first|exact (cl HR0.out HB.out)|(with_reducible refine ca ?_ _)|(with_reducible refine cb ?_ _)|(with_reducible refine cc ?_)));(case side2=>exact HC0.out);(case side3=>repeat (first|exact (cl HR1.out HB.out)|(with_reducible refine ca ?_ _)|(with_reducible refine cb ?_ _)|(with_reducible refine cc ?_)));(case side4=>exact HC1.out);rintro e w' ⟨rfl,⟨nd,rfl⟩⟩;refine ⟨_,rfl,?_⟩;(try (rw [drewN_self wc];generalize hq_ : World.drewN wc _ = wc;have n0_ : Aside0 (wc.heap[gb289]? = some (.cells #[.int .i64 0,.int .i64 0] 36 (0,0))):=⟨by rw [← hq_];exact (by (with_reducible repeat (first|refine blk_drewN ?_ _|refine blk_drew ?_|refine blk_alloc ?_ _));exact BK289.out)⟩;have n1_ : Aside0 (Below w.heap.size w wc):=⟨by rw [← hq_];exact (by repeat (first|(with_reducible first|exact HB.out|apply ba|apply bb|apply bc|refine below_set ?_ GE289.out)|exact HB.out))⟩;clear BK289 HB hq_;have BK289:=n0_;have HB:=n1_;clear n0_ n1_)))|((with_reducible refine gate_callee (f:=71) rfl ?_);refine goesL_ (some 61) rfl rfl Try.func71 (by kernel_rfl) rfl #[.int .i64 (wrap64 ((wrap64 (t290 * t291)) - (wrap64 (t301 * t301)))),.int .i64 (wrap64 (t290 * t291))] rfl (by (try simp only [List.map_toArray,List.map_cons,List.map_nil]);first|done|rfl|(simp only [List.length_drop,List.length_take];rfl)) ?_;(with_reducible refine (ratio_Make.calls kj4 (wrap64 ((wrap64 (t290 * t291)) - (wrap64 (t301 * t301)))) (wrap64 (t290 * t291)) t305 t306 t307 _ A27.out).mono ?_);rintro e w28 ⟨rfl,hb⟩;refine ⟨_,rfl,?_⟩;have n0_:=A_ (blk_below (g:=gb289) (o:=.cells #[.int .i64 0,.int .i64 0] 36 (0,0)) (by (with_reducible repeat (first|refine blk_drewN ?_ _|refine blk_drew ?_|refine blk_alloc ?_ _));exact BK289.out) hb);have n1_:=A_ (below_step (by repeat (first|(with_reducible first|exact HB.out|apply ba|apply bb|apply bc|refine below_set ?_ GE289.out)|exact HB.out)) hb);clear BK289;clear HB;have BK289:=n0_;have HB:=n1_;clear n0_ n1_;(try clear hb);(try clear hb2);(try clear hk);(try clear hi);have hcz29_0 : w28.cell? ⟨gb289,0,none⟩ = some (.int .i64 0):=(blk_cell BK289.out 0).trans rfl;have hcz29_1 : w28.cell? ⟨gb289,1,none⟩ = some (.int .i64 0):=(blk_cell BK289.out 1).trans rfl;have hfz29_0:=blk_frozen BK289.out 0;have hfz29_1:=blk_frozen BK289.out 1))
       refine bodyPost_ret (results_ct rfl _ _ gb289 36 #[.int .i64 t305,.int .i64 t306] (0,0) _ rfl (by (with_reducible repeat (first|refine blk_drewN ?_ _|refine blk_drew ?_|refine blk_alloc ?_ _));refine blk_put (cs:=#[.int .i64 t305,.int .i64 0]) ?_ 1 _ rfl;(with_reducible repeat (first|refine blk_drewN ?_ _|refine blk_drew ?_|refine blk_alloc ?_ _));refine blk_put (cs:=#[.int .i64 0,.int .i64 0]) ?_ 0 _ rfl;(with_reducible repeat (first|refine blk_drewN ?_ _|refine blk_drew ?_|refine blk_alloc ?_ _));exact BK289.out) Try.underlying36 rfl (by kernel_rfl)) rfl ?_
       exact ⟨by first|rfl|(simp [errW_none,errW_some] <;> rfl)|(simp [*,errW_none,errW_some] <;> rfl),by repeat (first|(with_reducible first|exact HB.out|apply ba|apply bb|apply bc|refine below_set ?_ GE289.out)|exact HB.out)⟩

/-! ### normal_Gap: function 40 -/
def normal_Gap.f (k : Nat) (l0 : List Int) (l1 : List Int) : Option (Int × Int × Int):=(euclid_Distance.f k l0 l1).bind fun bt309=>(if bt309.2 = 0 then ((normal_gap.f k l0 l1).bind fun bt311=>(some (bt311.1,bt311.2.1,bt311.2.2))) else (some (0,0,bt309.2)))
theorem normal_Gap.mono : ∀ a0 a1 k,LeO (normal_Gap.f k a0 a1) (normal_Gap.f (k + 1) a0 a1):=by
 intro a0 a1 k
 unfold normal_Gap.f
 repeat' first
   | (with_reducible exact euclid_Distance.mono _ _ _)
   | (with_reducible exact normal_gap.mono _ _ _)
   | (with_reducible exact LeO.refl _)
   | (with_reducible exact LeO.none _)
   | (with_reducible refine LeO.ite ?_ ?_)
   | (with_reducible refine LeO.bind ?_ (fun _=>?_))
   | exact euclid_Distance.mono _ _ _
   | exact normal_gap.mono _ _ _
   | exact LeO.none _
   | refine LeO.ite ?_ ?_
   | refine LeO.bind ?_ (fun _=>?_)
set_option maxHeartbeats 8000000 in
set_option maxRecDepth 100000 in
theorem normal_Gap.calls (k : Nat) (A0 : Option Addr) (c0 : Nat) (l0 : List Int) (A1 : Option Addr) (c1 : Nat) (l1 : List Int) (r1 : Int) (r2 : Int) (r3 : Int) (w : World) (hr0 : Kd.C (Kd.int .i64) w A0 l0.length l0) (hc0 : l0.length ≤ c0) (hr1 : Kd.C (Kd.int .i64) w A1 l1.length l1) (hc1 : l1.length ≤ c1) (h : normal_Gap.f k l0 l1 = some (r1,r2,r3)) :
  Calls Try.prog 40 #[.slice A0 l0.length c0,.slice A1 l1.length c1] w fun e w'=>e = .returned (.tuple #[.agg #[.int .i64 r1,.int .i64 r2],.int .i64 r3])∧Below w.heap.size w w':=by
 have hu36:=Try.underlying36
 have HR0:=A_ hr0
 have HC0:=A_ hc0
 clear hr0 hc0
 have HR1:=A_ hr1
 have HC1:=A_ hc1
 clear hr1 hc1
 have HB:=A_ (Below.refl w.heap.size w)
 have H : ((euclid_Distance.f k l0 l1).bind fun bt309=>(if bt309.2 = 0 then ((normal_gap.f k l0 l1).bind fun bt311=>(some (bt311.1,bt311.2.1,bt311.2.2))) else (some (0,0,bt309.2)))) = some (r1,r2,r3):=h
 clear h
 replace H:=Option.bind_eq_some_iff.mp H
 obtain ⟨⟨t309,t310⟩,A30,H⟩:=H
 replace H : (if t310 = 0 then ((normal_gap.f k l0 l1).bind fun bt311=>(some (bt311.1,bt311.2.1,bt311.2.2))) else (some (0,0,t310))) = some (r1,r2,r3):=H
 have A3:=A_ A30
 clear A30
 by_cases c4 : t310 = 0
 ·
  rw [if_pos c4] at H
  have c4b0 : (t310 == 0) = true:=beq_iff_eq.mpr c4
  have c4b1 : (t310 != 0) = false:=bne_eq_false_iff_eq.mpr c4
  clear c4
  replace H:=Option.bind_eq_some_iff.mp H
  obtain ⟨⟨t311,t312,t313⟩,A50,H⟩:=H
  replace H : (some (t311,t312,t313)) = some (r1,r2,r3):=H
  have A5:=A_ A50
  clear A50
  simp only [Option.some.injEq,Prod.mk.injEq] at H
  obtain ⟨rfl,rfl,rfl⟩:=H
  go_enter Try.func40,Try.ntmps40
  go_wp2_with (first|((with_reducible refine gate_dst (N:=4) rfl ?_);refine box_event ?hg (N:=4) ?hd (cs:=#[.int .i64 0,.int .i64 0]) (t:=36) ?hr ?_;(case hd=>rfl);(case hg=>rfl);(case hr=>first|(go_simp;done)|(go_simp;rfl));intro gb308 hg w6 hbox hb;have n0_:=A_ (below_step (by repeat (first|(with_reducible first|exact HB.out|apply ba|apply bb|apply bc)|exact HB.out)) hb);have n1_:=A_ (hbox);have n2_:=A_ ((by rw [hg];exact (below_size (by repeat (first|(with_reducible first|exact HB.out|apply ba|apply bb|apply bc)|exact HB.out))) : w.heap.size ≤ gb308));have n3_:=A_ ((by rw [hg];exact (below_size (by repeat (first|(with_reducible first|exact HB.out|apply ba|apply bb|apply bc)|exact HB.out))) : w.heap.size ≤ gb308));clear HB;have HB:=n0_;have BK308:=n1_;have GW308:=n2_;have GE308:=n3_;clear n0_ n1_ n2_ n3_;clear hb hbox hg)|((with_reducible refine gate_callee (f:=61) rfl ?_);refine goesL_ (some 11) rfl rfl Try.func61 (by kernel_rfl) rfl #[.slice A0 l0.length c0,.slice A1 l1.length c1] rfl (by (try simp only [List.map_toArray,List.map_cons,List.map_nil]);first|done|rfl|(simp only [List.length_drop,List.length_take];rfl)) ?_;(with_reducible refine (euclid_Distance.calls k _ _ l0 _ _ l1 t309 t310 _ ?side1 ?side2 ?side3 ?side4 A3.out).mono ?_);(case side1=>repeat (first|exact (cl HR0.out HB.out)|(with_reducible refine ca ?_ _)|(with_reducible refine cb ?_ _)|(with_reducible refine cc ?_)));(case side2=>exact HC0.out);(case side3=>repeat (first|exact (cl HR1.out HB.out)|(with_reducible refine ca ?_ _)|(with_reducible refine cb ?_ _)|(with_reducible refine cc ?_)));(case side4=>exact HC1.out);rintro e w' ⟨rfl,⟨nd,rfl⟩⟩;refine ⟨_,rfl,?_⟩;(try (rw [drewN_self w6];generalize hq_ : World.drewN w6 _ = w6;have n0_ : Aside0 (w6.heap[gb308]? = some (.cells #[.int .i64 0,.int .i64 0] 36 (0,0))):=⟨by rw [← hq_];exact (by (with_reducible repeat (first|refine blk_drewN ?_ _|refine blk_drew ?_|refine blk_alloc ?_ _));exact BK308.out)⟩;have n1_ : Aside0 (Below w.heap.size w w6):=⟨by rw [← hq_];exact (by repeat (first|(with_reducible first|exact HB.out|apply ba|apply bb|apply bc|refine below_set ?_ GE308.out)|exact HB.out))⟩;clear BK308 HB hq_;have BK308:=n0_;have HB:=n1_;clear n0_ n1_)))|((with_reducible refine gate_callee (f:=62) rfl ?_);refine goesL_ (some 20) rfl rfl Try.func62 (by kernel_rfl) rfl #[.slice A0 l0.length c0,.slice A1 l1.length c1] rfl (by (try simp only [List.map_toArray,List.map_cons,List.map_nil]);first|done|rfl|(simp only [List.length_drop,List.length_take];rfl)) ?_;(with_reducible refine (normal_gap.calls k _ _ l0 _ _ l1 t311 t312 t313 _ ?side1 ?side2 ?side3 ?side4 A5.out).mono ?_);(case side1=>repeat (first|exact (cl HR0.out HB.out)|(with_reducible refine ca ?_ _)|(with_reducible refine cb ?_ _)|(with_reducible refine cc ?_)));(case side2=>exact HC0.out);(case side3=>repeat (first|exact (cl HR1.out HB.out)|(with_reducible refine ca ?_ _)|(with_reducible refine cb ?_ _)|(with_reducible refine cc ?_)));(case side4=>exact HC1.out);rintro e w7 ⟨rfl,hb⟩;refine ⟨_,rfl,?_⟩;have n0_:=A_ (blk_below (g:=gb308) (o:=.cells #[.int .i64 0,.int .i64 0] 36 (0,0)) (by (with_reducible repeat (first|refine blk_drewN ?_ _|refine blk_drew ?_|refine blk_alloc ?_ _));exact BK308.out) hb);have n1_:=A_ (below_step (by repeat (first|(with_reducible first|exact HB.out|apply ba|apply bb|apply bc|refine below_set ?_ GE308.out)|exact HB.out)) hb);clear BK308;clear HB;have BK308:=n0_;have HB:=n1_;clear n0_ n1_;(try clear hb);(try clear hb2);(try clear hk);(try clear hi);have hcz8_0 : w7.cell? ⟨gb308,0,none⟩ = some (.int .i64 0):=(blk_cell BK308.out 0).trans rfl;have hcz8_1 : w7.cell? ⟨gb308,1,none⟩ = some (.int .i64 0):=(blk_cell BK308.out 1).trans rfl;have hfz8_0:=blk_frozen BK308.out 0;have hfz8_1:=blk_frozen BK308.out 1))
  refine bodyPost_ret (results_ct rfl _ _ gb308 36 #[.int .i64 t311,.int .i64 t312] (0,0) _ rfl (by (with_reducible repeat (first|refine blk_drewN ?_ _|refine blk_drew ?_|refine blk_alloc ?_ _));refine blk_put (cs:=#[.int .i64 t311,.int .i64 0]) ?_ 1 _ rfl;(with_reducible repeat (first|refine blk_drewN ?_ _|refine blk_drew ?_|refine blk_alloc ?_ _));refine blk_put (cs:=#[.int .i64 0,.int .i64 0]) ?_ 0 _ rfl;(with_reducible repeat (first|refine blk_drewN ?_ _|refine blk_drew ?_|refine blk_alloc ?_ _));exact BK308.out) Try.underlying36 rfl (by kernel_rfl)) rfl ?_
  exact ⟨by first|rfl|(simp [errW_none,errW_some] <;> rfl)|(simp [*,errW_none,errW_some] <;> rfl),by repeat (first|(with_reducible first|exact HB.out|apply ba|apply bb|apply bc|refine below_set ?_ GE308.out)|exact HB.out)⟩
 ·
  rw [if_neg c4] at H
  have c4b0 : (t310 == 0) = false:=beq_eq_false_iff_ne.mpr c4
  have c4b1 : (t310 != 0) = true:=bne_iff_ne.mpr c4
  simp only [Option.some.injEq,Prod.mk.injEq] at H
  obtain ⟨rfl,rfl,rfl⟩:=H
  go_enter Try.func40,Try.ntmps40
  go_wp2_with (first|((with_reducible refine gate_dst (N:=4) rfl ?_);refine box_event ?hg (N:=4) ?hd (cs:=#[.int .i64 0,.int .i64 0]) (t:=36) ?hr ?_;(case hd=>rfl);(case hg=>rfl);(case hr=>first|(go_simp;done)|(go_simp;rfl));intro gb308 hg w9 hbox hb;have n0_:=A_ (below_step (by repeat (first|(with_reducible first|exact HB.out|apply ba|apply bb|apply bc)|exact HB.out)) hb);have n1_:=A_ (hbox);have n2_:=A_ ((by rw [hg];exact (below_size (by repeat (first|(with_reducible first|exact HB.out|apply ba|apply bb|apply bc)|exact HB.out))) : w.heap.size ≤ gb308));have n3_:=A_ ((by rw [hg];exact (below_size (by repeat (first|(with_reducible first|exact HB.out|apply ba|apply bb|apply bc)|exact HB.out))) : w.heap.size ≤ gb308));clear HB;have HB:=n0_;have BK308:=n1_;have GW308:=n2_;have GE308:=n3_;clear n0_ n1_ n2_ n3_;clear hb hbox hg)|((with_reducible refine gate_callee (f:=61) rfl ?_);refine goesL_ (some 11) rfl rfl Try.func61 (by kernel_rfl) rfl #[.slice A0 l0.length c0,.slice A1 l1.length c1] rfl (by (try simp only [List.map_toArray,List.map_cons,List.map_nil]);first|done|rfl|(simp only [List.length_drop,List.length_take];rfl)) ?_;(with_reducible refine (euclid_Distance.calls k _ _ l0 _ _ l1 t309 t310 _ ?side1 ?side2 ?side3 ?side4 A3.out).mono ?_);(case side1=>repeat (first|exact (cl HR0.out HB.out)|(with_reducible refine ca ?_ _)|(with_reducible refine cb ?_ _)|(with_reducible refine cc ?_)));(case side2=>exact HC0.out);(case side3=>repeat (first|exact (cl HR1.out HB.out)|(with_reducible refine ca ?_ _)|(with_reducible refine cb ?_ _)|(with_reducible refine cc ?_)));(case side4=>exact HC1.out);rintro e w' ⟨rfl,⟨nd,rfl⟩⟩;refine ⟨_,rfl,?_⟩;(try (rw [drewN_self w9];generalize hq_ : World.drewN w9 _ = w9;have n0_ : Aside0 (w9.heap[gb308]? = some (.cells #[.int .i64 0,.int .i64 0] 36 (0,0))):=⟨by rw [← hq_];exact (by (with_reducible repeat (first|refine blk_drewN ?_ _|refine blk_drew ?_|refine blk_alloc ?_ _));exact BK308.out)⟩;have n1_ : Aside0 (Below w.heap.size w w9):=⟨by rw [← hq_];exact (by repeat (first|(with_reducible first|exact HB.out|apply ba|apply bb|apply bc|refine below_set ?_ GE308.out)|exact HB.out))⟩;clear BK308 HB hq_;have BK308:=n0_;have HB:=n1_;clear n0_ n1_));have hcz10_0 : w9.cell? ⟨gb308,0,none⟩ = some (.int .i64 0):=(blk_cell BK308.out 0).trans rfl;have hcz10_1 : w9.cell? ⟨gb308,1,none⟩ = some (.int .i64 0):=(blk_cell BK308.out 1).trans rfl;have hfz10_0:=blk_frozen BK308.out 0;have hfz10_1:=blk_frozen BK308.out 1))
  refine bodyPost_ret (results_ct rfl _ _ gb308 36 #[.int .i64 0,.int .i64 0] (0,0) _ rfl (by (with_reducible repeat (first|refine blk_drewN ?_ _|refine blk_drew ?_|refine blk_alloc ?_ _));refine blk_put (cs:=#[.int .i64 0,.int .i64 0]) ?_ 1 _ rfl;(with_reducible repeat (first|refine blk_drewN ?_ _|refine blk_drew ?_|refine blk_alloc ?_ _));refine blk_put (cs:=#[.int .i64 0,.int .i64 0]) ?_ 0 _ rfl;(with_reducible repeat (first|refine blk_drewN ?_ _|refine blk_drew ?_|refine blk_alloc ?_ _));exact BK308.out) Try.underlying36 rfl (by kernel_rfl)) rfl ?_
  exact ⟨by first|rfl|(simp [errW_none,errW_some] <;> rfl)|(simp [*,errW_none,errW_some] <;> rfl),by repeat (first|(with_reducible first|exact HB.out|apply ba|apply bb|apply bc|refine below_set ?_ GE308.out)|exact HB.out)⟩

/-! ### ratio_Valid: function 73 -/
def ratio_Valid.f (k : Nat) (a0_0 : Int) (a0_1 : Int) : Option (Bool):=(ratio_within.f a0_0 a0_1).bind fun t315=>(if t315 = true then ((ratio_divisor.f k a0_0 a0_1).bind fun t316=>(some (t316 == 1))) else (some false))
theorem ratio_Valid.mono : ∀ a0 a1 k,LeO (ratio_Valid.f k a0 a1) (ratio_Valid.f (k + 1) a0 a1):=by
 intro a0 a1 k
 unfold ratio_Valid.f
 repeat' first
   | (with_reducible exact ratio_divisor.mono _ _ _)
   | (with_reducible exact LeO.refl _)
   | (with_reducible exact LeO.none _)
   | (with_reducible refine LeO.ite ?_ ?_)
   | (with_reducible refine LeO.bind ?_ (fun _=>?_))
   | exact ratio_divisor.mono _ _ _
   | exact LeO.none _
   | refine LeO.ite ?_ ?_
   | refine LeO.bind ?_ (fun _=>?_)
set_option maxHeartbeats 8000000 in
set_option maxRecDepth 100000 in
theorem ratio_Valid.calls (k : Nat) (a0_0 : Int) (a0_1 : Int) (r : Bool) (w : World) (h : ratio_Valid.f k a0_0 a0_1 = some r) :
  Calls Try.prog 73 #[.agg #[.int .i64 a0_0,.int .i64 a0_1]] w fun e w'=>e = .returned (.bool r)∧Below w.heap.size w w':=by
 have hu36:=Try.underlying36
 have HB:=A_ (Below.refl w.heap.size w)
 have H : ((ratio_within.f a0_0 a0_1).bind fun t315=>(if t315 = true then ((ratio_divisor.f k a0_0 a0_1).bind fun t316=>(some (t316 == 1))) else (some false))) = some r:=h
 clear h
 replace H:=Option.bind_eq_some_iff.mp H
 obtain ⟨t315,A20,H⟩:=H
 replace H : (if t315 = true then ((ratio_divisor.f k a0_0 a0_1).bind fun t316=>(some (t316 == 1))) else (some false)) = some r:=H
 have A2:=A_ A20
 clear A20
 by_cases c3 : t315 = true
 ·
  subst c3
  have H1 : ((ratio_divisor.f k a0_0 a0_1).bind fun t316=>(some (t316 == 1))) = some r:=by rw [if_pos rfl] at H;exact H
  clear H
  have H:=H1
  clear H1
  replace H:=Option.bind_eq_some_iff.mp H
  obtain ⟨t316,A40,H⟩:=H
  replace H : (some (t316 == 1)) = some r:=H
  have A4:=A_ A40
  clear A40
  obtain rfl:=Option.some.inj H
  go_enter Try.func73,Try.ntmps73
  go_wp2_with (first|((with_reducible refine gate_dst (N:=1) rfl ?_);refine box_event ?hg (N:=1) ?hd (cs:=#[.int .i64 a0_0,.int .i64 a0_1]) (t:=36) ?hr ?_;(case hd=>rfl);(case hg=>rfl);(case hr=>first|(go_simp;done)|(go_simp;rfl));intro gb314 hg w5 hbox hb;have n0_:=A_ (below_step (by repeat (first|(with_reducible first|exact HB.out|apply ba|apply bb|apply bc)|exact HB.out)) hb);have n1_:=A_ (hbox);have n2_:=A_ ((by rw [hg];exact (below_size (by repeat (first|(with_reducible first|exact HB.out|apply ba|apply bb|apply bc)|exact HB.out))) : w.heap.size ≤ gb314));have n3_:=A_ ((by rw [hg];exact (below_size (by repeat (first|(with_reducible first|exact HB.out|apply ba|apply bb|apply bc)|exact HB.out))) : w.heap.size ≤ gb314));clear HB;have HB:=n0_;have BK314:=n1_;have GW314:=n2_;have GE314:=n3_;clear n0_ n1_ n2_ n3_;clear hb hbox hg;have hcz6_0 : w5.cell? ⟨gb314,0,none⟩ = some (.int .i64 a0_0):=(blk_cell BK314.out 0).trans rfl;have hcz6_1 : w5.cell? ⟨gb314,1,none⟩ = some (.int .i64 a0_1):=(blk_cell BK314.out 1).trans rfl;have hfz6_0:=blk_frozen BK314.out 0;have hfz6_1:=blk_frozen BK314.out 1)|((with_reducible refine gate_callee (f:=80) rfl ?_);refine goesL_ (some 4) rfl rfl Try.func80 (by kernel_rfl) rfl #[.agg #[.int .i64 a0_0,.int .i64 a0_1]] rfl (by (try simp only [List.map_toArray,List.map_cons,List.map_nil]);first|done|rfl|(simp only [List.length_drop,List.length_take];rfl)) ?_;(with_reducible refine (ratio_within.calls a0_0 a0_1 true _ A2.out).mono ?_);rintro e w7 ⟨rfl,hb⟩;refine ⟨_,rfl,?_⟩;have n0_:=A_ (blk_below (g:=gb314) (o:=.cells #[.int .i64 a0_0,.int .i64 a0_1] 36 (0,0)) (by (with_reducible repeat (first|refine blk_drewN ?_ _|refine blk_drew ?_|refine blk_alloc ?_ _));exact BK314.out) hb);have n1_:=A_ (below_step (by repeat (first|(with_reducible first|exact HB.out|apply ba|apply bb|apply bc|refine below_set ?_ GE314.out)|exact HB.out)) hb);clear BK314;clear HB;have BK314:=n0_;have HB:=n1_;clear n0_ n1_;(try clear hb);(try clear hb2);(try clear hk);(try clear hi);have hcz8_0 : w7.cell? ⟨gb314,0,none⟩ = some (.int .i64 a0_0):=(blk_cell BK314.out 0).trans rfl;have hcz8_1 : w7.cell? ⟨gb314,1,none⟩ = some (.int .i64 a0_1):=(blk_cell BK314.out 1).trans rfl;have hfz8_0:=blk_frozen BK314.out 0;have hfz8_1:=blk_frozen BK314.out 1)|(go_at_call 79;(with_reducible refine (ratio_divisor.calls k a0_0 a0_1 t316 _ A4.out).mono ?_);rintro e w' ⟨rfl,⟨nd,rfl⟩⟩))
  go_ret
  exact ⟨by first|rfl|(simp [errW_none,errW_some] <;> rfl)|(simp [*,errW_none,errW_some] <;> rfl),by repeat (first|(with_reducible first|exact HB.out|apply ba|apply bb|apply bc|refine below_set ?_ GE314.out)|exact HB.out)⟩
 ·
  replace c3:=Bool.eq_false_iff.mpr c3
  subst c3
  have H1 : (some false) = some r:=by rw [if_neg (show ¬ (false = true) by decide)] at H;exact H
  clear H
  have H:=H1
  clear H1
  obtain rfl:=Option.some.inj H
  go_enter Try.func73,Try.ntmps73
  go_wp2_with (first|((with_reducible refine gate_dst (N:=1) rfl ?_);refine box_event ?hg (N:=1) ?hd (cs:=#[.int .i64 a0_0,.int .i64 a0_1]) (t:=36) ?hr ?_;(case hd=>rfl);(case hg=>rfl);(case hr=>first|(go_simp;done)|(go_simp;rfl));intro gb314 hg w9 hbox hb;have n0_:=A_ (below_step (by repeat (first|(with_reducible first|exact HB.out|apply ba|apply bb|apply bc)|exact HB.out)) hb);have n1_:=A_ (hbox);have n2_:=A_ ((by rw [hg];exact (below_size (by repeat (first|(with_reducible first|exact HB.out|apply ba|apply bb|apply bc)|exact HB.out))) : w.heap.size ≤ gb314));have n3_:=A_ ((by rw [hg];exact (below_size (by repeat (first|(with_reducible first|exact HB.out|apply ba|apply bb|apply bc)|exact HB.out))) : w.heap.size ≤ gb314));clear HB;have HB:=n0_;have BK314:=n1_;have GW314:=n2_;have GE314:=n3_;clear n0_ n1_ n2_ n3_;clear hb hbox hg;have hcz10_0 : w9.cell? ⟨gb314,0,none⟩ = some (.int .i64 a0_0):=(blk_cell BK314.out 0).trans rfl;have hcz10_1 : w9.cell? ⟨gb314,1,none⟩ = some (.int .i64 a0_1):=(blk_cell BK314.out 1).trans rfl;have hfz10_0:=blk_frozen BK314.out 0;have hfz10_1:=blk_frozen BK314.out 1)|((with_reducible refine gate_callee (f:=80) rfl ?_);refine goesL_ (some 4) rfl rfl Try.func80 (by kernel_rfl) rfl #[.agg #[.int .i64 a0_0,.int .i64 a0_1]] rfl (by (try simp only [List.map_toArray,List.map_cons,List.map_nil]);first|done|rfl|(simp only [List.length_drop,List.length_take];rfl)) ?_;(with_reducible refine (ratio_within.calls a0_0 a0_1 false _ A2.out).mono ?_);rintro e w11 ⟨rfl,hb⟩;refine ⟨_,rfl,?_⟩;have n0_:=A_ (blk_below (g:=gb314) (o:=.cells #[.int .i64 a0_0,.int .i64 a0_1] 36 (0,0)) (by (with_reducible repeat (first|refine blk_drewN ?_ _|refine blk_drew ?_|refine blk_alloc ?_ _));exact BK314.out) hb);have n1_:=A_ (below_step (by repeat (first|(with_reducible first|exact HB.out|apply ba|apply bb|apply bc|refine below_set ?_ GE314.out)|exact HB.out)) hb);clear BK314;clear HB;have BK314:=n0_;have HB:=n1_;clear n0_ n1_;(try clear hb);(try clear hb2);(try clear hk);(try clear hi)))
  go_ret
  exact ⟨by first|rfl|(simp [errW_none,errW_some] <;> rfl)|(simp [*,errW_none,errW_some] <;> rfl),by repeat (first|(with_reducible first|exact HB.out|apply ba|apply bb|apply bc|refine below_set ?_ GE314.out)|exact HB.out)⟩

/-! ### bits_Mul64: function 74 -/
def bits_Mul64.f (a0 : Int) (a1 : Int) : Option (Int × Int):=some (IntKind.u64.wrap ((IntKind.u64.wrap ((IntKind.u64.wrap ((a0 / 4294967296) * (a1 / 4294967296))) + ((IntKind.u64.wrap ((IntKind.u64.wrap ((a0 / 4294967296) * (Go.bits .and .u64 a1 4294967295))) + ((IntKind.u64.wrap ((Go.bits .and .u64 a0 4294967295) * (Go.bits .and .u64 a1 4294967295))) / 4294967296))) / 4294967296))) + ((IntKind.u64.wrap ((Go.bits .and .u64 (IntKind.u64.wrap ((IntKind.u64.wrap ((a0 / 4294967296) * (Go.bits .and .u64 a1 4294967295))) + ((IntKind.u64.wrap ((Go.bits .and .u64 a0 4294967295) * (Go.bits .and .u64 a1 4294967295))) / 4294967296))) 4294967295) + (IntKind.u64.wrap ((Go.bits .and .u64 a0 4294967295) * (a1 / 4294967296))))) / 4294967296)),IntKind.u64.wrap (a0 * a1))
set_option maxHeartbeats 8000000 in
set_option maxRecDepth 100000 in
theorem bits_Mul64.calls (a0 : Int) (a1 : Int) (r1 : Int) (r2 : Int) (w : World) (h : bits_Mul64.f a0 a1 = some (r1,r2)) :
  Calls Try.prog 74 #[.int .u64 a0,.int .u64 a1] w fun e w'=>e = .returned (.tuple #[.int .u64 r1,.int .u64 r2])∧Drawn0 w w':=by
 have H : (some (IntKind.u64.wrap ((IntKind.u64.wrap ((IntKind.u64.wrap ((a0 / 4294967296) * (a1 / 4294967296))) + ((IntKind.u64.wrap ((IntKind.u64.wrap ((a0 / 4294967296) * (Go.bits .and .u64 a1 4294967295))) + ((IntKind.u64.wrap ((Go.bits .and .u64 a0 4294967295) * (Go.bits .and .u64 a1 4294967295))) / 4294967296))) / 4294967296))) + ((IntKind.u64.wrap ((Go.bits .and .u64 (IntKind.u64.wrap ((IntKind.u64.wrap ((a0 / 4294967296) * (Go.bits .and .u64 a1 4294967295))) + ((IntKind.u64.wrap ((Go.bits .and .u64 a0 4294967295) * (Go.bits .and .u64 a1 4294967295))) / 4294967296))) 4294967295) + (IntKind.u64.wrap ((Go.bits .and .u64 a0 4294967295) * (a1 / 4294967296))))) / 4294967296)),IntKind.u64.wrap (a0 * a1))) = some (r1,r2):=h
 clear h
 simp only [Option.some.injEq,Prod.mk.injEq] at H
 obtain ⟨rfl,rfl⟩:=H
 go_enter Try.func74,Try.ntmps74
 go_wp2
 go_ret2
 exact ⟨by first|rfl|(simp;done)|(simp [*];done),by repeat (first|exact Drawn0.refl _|apply Drawn0.step)⟩

/-! ### ratio_Cmp: function 63 -/
mutual
def ratio_Cmp.j0 : Nat → Bool → Int → Int → Int → Int → Option (Int)
 | 0,_,_,_,_,_=>none
 | k + 1,x16,x318000,x318001,x319000,x319001=>if x16 = true then (some 0) else ((bits_Mul64.f (IntKind.u64.wrap (x318000)) (IntKind.u64.wrap (x319001))).bind fun bt321=>((bits_Mul64.f (IntKind.u64.wrap (x319000)) (IntKind.u64.wrap (x318001))).bind fun bt323=>(if bt321.1 < bt323.1 then (ratio_Cmp.j1 k bt321.1 bt321.2 bt323.1 bt323.2 true) else (if bt321.1 = bt323.1 then (ratio_Cmp.j1 k bt321.1 bt321.2 bt323.1 bt323.2 (decide (bt321.2 < bt323.2))) else (ratio_Cmp.j1 k bt321.1 bt321.2 bt323.1 bt323.2 false)))))
def ratio_Cmp.j1 : Nat → Int → Int → Int → Int → Bool → Option (Int)
 | 0,_,_,_,_,_=>none
 | k + 1,x5,x6,x7,x8,x37=>if x37 = true then (some (-1)) else (if x5 = x7 then (if x6 = x8 then (some 0) else (some 1)) else (some 1))
end
def ratio_Cmp.f (k : Nat) (a0_0 : Int) (a0_1 : Int) (a1_0 : Int) (a1_1 : Int) : Option (Int):=(ratio_Valid.f k a0_0 a0_1).bind fun t319=>(if t319 = true then ((ratio_Valid.f k a1_0 a1_1).bind fun t320=>(ratio_Cmp.j0 k (!t320) a0_0 a0_1 a1_0 a1_1)) else (ratio_Cmp.j0 k true a0_0 a0_1 a1_0 a1_1))
theorem ratio_Cmp.mono_l : ∀ k,(∀ y0 y1 y2 y3 y4,LeO (ratio_Cmp.j0 k y0 y1 y2 y3 y4) (ratio_Cmp.j0 (k + 1) y0 y1 y2 y3 y4))∧(∀ y0 y1 y2 y3 y4,LeO (ratio_Cmp.j1 k y0 y1 y2 y3 y4) (ratio_Cmp.j1 (k + 1) y0 y1 y2 y3 y4))
 | 0=>⟨fun _ _ _ _ _ r h=>by simp [ratio_Cmp.j0] at h,fun _ _ _ _ _ r h=>by simp [ratio_Cmp.j1] at h⟩
 | k + 1=>by
  obtain ⟨ih0,ih1⟩:=ratio_Cmp.mono_l k
  refine ⟨?_,?_⟩
  ·
   intro y0 y1 y2 y3 y4
   unfold ratio_Cmp.j0
   repeat' first
   | (with_reducible exact ih0 _ _ _ _ _)
   | (with_reducible exact ih1 _ _ _ _ _)
   | (with_reducible exact ratio_Valid.mono _ _ _)
   | (with_reducible exact LeO.refl _)
   | (with_reducible exact LeO.none _)
   | (with_reducible refine LeO.ite ?_ ?_)
   | (with_reducible refine LeO.bind ?_ (fun _=>?_))
   | exact ih0 _ _ _ _ _
   | exact ih1 _ _ _ _ _
   | exact ratio_Valid.mono _ _ _
   | exact LeO.none _
   | refine LeO.ite ?_ ?_
   | refine LeO.bind ?_ (fun _=>?_)
  ·
   intro y0 y1 y2 y3 y4
   unfold ratio_Cmp.j1
   repeat' first
   | (with_reducible exact ih0 _ _ _ _ _)
   | (with_reducible exact ih1 _ _ _ _ _)
   | (with_reducible exact ratio_Valid.mono _ _ _)
   | (with_reducible exact LeO.refl _)
   | (with_reducible exact LeO.none _)
   | (with_reducible refine LeO.ite ?_ ?_)
   | (with_reducible refine LeO.bind ?_ (fun _=>?_))
   | exact ih0 _ _ _ _ _
   | exact ih1 _ _ _ _ _
   | exact ratio_Valid.mono _ _ _
   | exact LeO.none _
   | refine LeO.ite ?_ ?_
   | refine LeO.bind ?_ (fun _=>?_)
theorem ratio_Cmp.mono : ∀ a0 a1 a2 a3 k,LeO (ratio_Cmp.f k a0 a1 a2 a3) (ratio_Cmp.f (k + 1) a0 a1 a2 a3):=by
 intro a0 a1 a2 a3 k
 obtain ⟨ih0,ih1⟩:=ratio_Cmp.mono_l k
 unfold ratio_Cmp.f
 repeat' first
   | (with_reducible exact ih0 _ _ _ _ _)
   | (with_reducible exact ih1 _ _ _ _ _)
   | (with_reducible exact ratio_Valid.mono _ _ _)
   | (with_reducible exact LeO.refl _)
   | (with_reducible exact LeO.none _)
   | (with_reducible refine LeO.ite ?_ ?_)
   | (with_reducible refine LeO.bind ?_ (fun _=>?_))
   | exact ih0 _ _ _ _ _
   | exact ih1 _ _ _ _ _
   | exact ratio_Valid.mono _ _ _
   | exact LeO.none _
   | refine LeO.ite ?_ ?_
   | refine LeO.bind ?_ (fun _=>?_)
set_option maxHeartbeats 8000000 in
set_option maxRecDepth 100000 in
theorem ratio_Cmp.calls (k : Nat) (a0_0 : Int) (a0_1 : Int) (a1_0 : Int) (a1_1 : Int) (r : Int) (w : World) (h : ratio_Cmp.f k a0_0 a0_1 a1_0 a1_1 = some r) :
  Calls Try.prog 63 #[.agg #[.int .i64 a0_0,.int .i64 a0_1],.agg #[.int .i64 a1_0,.int .i64 a1_1]] w fun e w'=>e = .returned (.int .i64 r)∧Below w.heap.size w w':=by
 have hu36:=Try.underlying36
 have HB:=A_ (Below.refl w.heap.size w)
 have H : ((ratio_Valid.f k a0_0 a0_1).bind fun t319=>(if t319 = true then ((ratio_Valid.f k a1_0 a1_1).bind fun t320=>(ratio_Cmp.j0 k (!t320) a0_0 a0_1 a1_0 a1_1)) else (ratio_Cmp.j0 k true a0_0 a0_1 a1_0 a1_1))) = some r:=h
 clear h
 have HC3:=A_ H
 clear H
 go_enter Try.func63,Try.ntmps63
 go_upto_region 1 with (first|((with_reducible refine gate_dst (N:=2) rfl ?_);refine box_event ?hg (N:=2) ?hd (cs:=#[.int .i64 a0_0,.int .i64 a0_1]) (t:=36) ?hr ?_;(case hd=>rfl);(case hg=>rfl);(case hr=>first|(go_simp;done)|(go_simp;rfl));intro gb317 hg w4 hbox hb;have n0_:=A_ (below_step (by repeat (first|(with_reducible first|exact HB.out|apply ba|apply bb|apply bc)|exact HB.out)) hb);have n1_:=A_ (hbox);have n2_:=A_ ((by rw [hg];exact (below_size (by repeat (first|(with_reducible first|exact HB.out|apply ba|apply bb|apply bc)|exact HB.out))) : w.heap.size ≤ gb317));have n3_:=A_ ((by rw [hg];exact (below_size (by repeat (first|(with_reducible first|exact HB.out|apply ba|apply bb|apply bc)|exact HB.out))) : w.heap.size ≤ gb317));clear HB;have HB:=n0_;have BK317:=n1_;have GW317:=n2_;have GE317:=n3_;clear n0_ n1_ n2_ n3_;clear hb hbox hg)|((with_reducible refine gate_dst (N:=3) rfl ?_);refine box_event ?hg (N:=3) ?hd (cs:=#[.int .i64 a1_0,.int .i64 a1_1]) (t:=36) ?hr ?_;(case hd=>rfl);(case hg=>rfl);(case hr=>first|(go_simp;done)|(go_simp;rfl));intro gb318 hg w5 hbox hb;have n0_:=A_ (blk_below (g:=gb317) (o:=.cells #[.int .i64 a0_0,.int .i64 a0_1] 36 (0,0)) (by (with_reducible repeat (first|refine blk_drewN ?_ _|refine blk_drew ?_|refine blk_alloc ?_ _));exact BK317.out) hb);have n1_:=A_ (below_step (by repeat (first|(with_reducible first|exact HB.out|apply ba|apply bb|apply bc|refine below_set ?_ GE317.out)|exact HB.out)) hb);have n2_:=A_ (hbox);have n3_:=A_ ((by rw [hg];exact (below_size (by repeat (first|(with_reducible first|exact HB.out|apply ba|apply bb|apply bc|refine below_set ?_ GE317.out)|exact HB.out))) : w.heap.size ≤ gb318));have n4_:=A_ ((by rw [hg];exact (below_size (by repeat (first|(with_reducible first|exact HB.out|apply ba|apply bb|apply bc|refine below_set ?_ GE317.out)|exact HB.out))) : w.heap.size ≤ gb318));have n5_:=A_ ((by rw [hg];exact Nat.ne_of_lt (blk_lt (g:=gb317) (o:=.cells #[.int .i64 a0_0,.int .i64 a0_1] 36 (0,0)) (by (with_reducible repeat (first|refine blk_drewN ?_ _|refine blk_drew ?_|refine blk_alloc ?_ _));exact BK317.out)) : gb317≠gb318));have n6_:=A_ ((by rw [hg];exact Nat.ne_of_gt (blk_lt (g:=gb317) (o:=.cells #[.int .i64 a0_0,.int .i64 a0_1] 36 (0,0)) (by (with_reducible repeat (first|refine blk_drewN ?_ _|refine blk_drew ?_|refine blk_alloc ?_ _));exact BK317.out)) : gb318≠gb317));clear BK317;clear HB;have BK317:=n0_;have HB:=n1_;have BK318:=n2_;have GW318:=n3_;have GE318:=n4_;have NB317_318:=n5_;have NB318_317:=n6_;clear n0_ n1_ n2_ n3_ n4_ n5_ n6_;clear hb hbox hg))
 (try simp only [Act.put,List.setIfInBounds_toArray,List.set_cons_zero,List.set_cons_succ])
 go_cut [16] (fun v16 wc=>∃ (kq : Nat) (x16_2 : Bool),v16 = .bool x16_2∧Aside0 (ratio_Cmp.j0 kq x16_2 a0_0 a0_1 a1_0 a1_1 = some r)∧Aside0 (kq ≤ k)∧Aside0 (wc.heap[gb317]? = some (.cells #[.int .i64 a0_0,.int .i64 a0_1] 36 (0,0)))∧Aside0 (wc.heap[gb318]? = some (.cells #[.int .i64 a1_0,.int .i64 a1_1] 36 (0,0)))∧Aside0 (Below w.heap.size w wc))
 case first =>
  have H:=HC3.out
  clear HC3
  replace H:=Option.bind_eq_some_iff.mp H
  obtain ⟨t319,A60,H⟩:=H
  replace H : (if t319 = true then ((ratio_Valid.f k a1_0 a1_1).bind fun t320=>(ratio_Cmp.j0 k (!t320) a0_0 a0_1 a1_0 a1_1)) else (ratio_Cmp.j0 k true a0_0 a0_1 a1_0 a1_1)) = some r:=H
  have A6:=A_ A60
  clear A60
  by_cases c7 : t319 = true
  ·
   subst c7
   have H1 : ((ratio_Valid.f k a1_0 a1_1).bind fun t320=>(ratio_Cmp.j0 k (!t320) a0_0 a0_1 a1_0 a1_1)) = some r:=by rw [if_pos rfl] at H;exact H
   clear H
   have H:=H1
   clear H1
   replace H:=Option.bind_eq_some_iff.mp H
   obtain ⟨t320,A80,H⟩:=H
   replace H : (ratio_Cmp.j0 k (!t320) a0_0 a0_1 a1_0 a1_1) = some r:=H
   have A8:=A_ A80
   clear A80
   have H':=A_ H
   clear H
   have hnb9:=NB317_318.out
   have hnc9:=NB318_317.out
   have hcz10_0 : w5.cell? ⟨gb317,0,none⟩ = some (.int .i64 a0_0):=(blk_cell BK317.out 0).trans rfl
   have hcz10_1 : w5.cell? ⟨gb317,1,none⟩ = some (.int .i64 a0_1):=(blk_cell BK317.out 1).trans rfl
   have hfz10_0:=blk_frozen BK317.out 0
   have hfz10_1:=blk_frozen BK317.out 1
   go_wp2_with (first|((with_reducible refine gate_callee (f:=73) rfl ?_);refine goesL_ (some 10) rfl rfl Try.func73 (by kernel_rfl) rfl #[.agg #[.int .i64 a0_0,.int .i64 a0_1]] rfl (by (try simp only [List.map_toArray,List.map_cons,List.map_nil]);first|done|rfl|(simp only [List.length_drop,List.length_take];rfl)) ?_;(with_reducible refine (ratio_Valid.calls k a0_0 a0_1 true _ A6.out).mono ?_);rintro e w11 ⟨rfl,hb⟩;refine ⟨_,rfl,?_⟩;have n0_:=A_ (blk_below (g:=gb317) (o:=.cells #[.int .i64 a0_0,.int .i64 a0_1] 36 (0,0)) (by (with_reducible repeat (first|refine blk_drewN ?_ _|refine blk_drew ?_|refine blk_alloc ?_ _));exact BK317.out) hb);have n1_:=A_ (blk_below (g:=gb318) (o:=.cells #[.int .i64 a1_0,.int .i64 a1_1] 36 (0,0)) (by (with_reducible repeat (first|refine blk_drewN ?_ _|refine blk_drew ?_|refine blk_alloc ?_ _));exact BK318.out) hb);have n2_:=A_ (below_step (by repeat (first|(with_reducible first|exact HB.out|apply ba|apply bb|apply bc|refine below_set ?_ GE317.out|refine below_set ?_ GE318.out)|exact HB.out)) hb);clear BK317;clear BK318;clear HB;have BK317:=n0_;have BK318:=n1_;have HB:=n2_;clear n0_ n1_ n2_;(try clear hb);(try clear hb2);(try clear hk);(try clear hi);have hcz12_0 : w11.cell? ⟨gb318,0,none⟩ = some (.int .i64 a1_0):=(blk_cell BK318.out 0).trans rfl;have hcz12_1 : w11.cell? ⟨gb318,1,none⟩ = some (.int .i64 a1_1):=(blk_cell BK318.out 1).trans rfl;have hfz12_0:=blk_frozen BK318.out 0;have hfz12_1:=blk_frozen BK318.out 1)|(go_at_call 73;(with_reducible refine (ratio_Valid.calls k a1_0 a1_1 t320 _ A8.out).mono ?_);rintro e w13 ⟨rfl,hb⟩;have n0_:=A_ (blk_below (g:=gb317) (o:=.cells #[.int .i64 a0_0,.int .i64 a0_1] 36 (0,0)) (by (with_reducible repeat (first|refine blk_drewN ?_ _|refine blk_drew ?_|refine blk_alloc ?_ _));exact BK317.out) hb);have n1_:=A_ (blk_below (g:=gb318) (o:=.cells #[.int .i64 a1_0,.int .i64 a1_1] 36 (0,0)) (by (with_reducible repeat (first|refine blk_drewN ?_ _|refine blk_drew ?_|refine blk_alloc ?_ _));exact BK318.out) hb);have n2_:=A_ (below_step (by repeat (first|(with_reducible first|exact HB.out|apply ba|apply bb|apply bc|refine below_set ?_ GE317.out|refine below_set ?_ GE318.out)|exact HB.out)) hb);clear BK317;clear BK318;clear HB;have BK317:=n0_;have BK318:=n1_;have HB:=n2_;clear n0_ n1_ n2_;(try clear hb);(try clear hb2);(try clear hk);(try clear hi)))
   go_meet
   case rel=>exact ⟨_,(!t320),(by first|rfl|(simp;done)|(simp [*];done)),H',⟨by first|omega|exact Nat.le_refl _⟩,⟨by (with_reducible repeat (first|refine blk_drewN ?_ _|refine blk_drew ?_|refine blk_alloc ?_ _));exact BK317.out⟩,⟨by (with_reducible repeat (first|refine blk_drewN ?_ _|refine blk_drew ?_|refine blk_alloc ?_ _));exact BK318.out⟩,⟨by repeat (first|(with_reducible first|exact HB.out|apply ba|apply bb|apply bc|refine below_set ?_ GE317.out|refine below_set ?_ GE318.out)|exact HB.out)⟩⟩
  ·
   replace c7:=Bool.eq_false_iff.mpr c7
   subst c7
   have H1 : (ratio_Cmp.j0 k true a0_0 a0_1 a1_0 a1_1) = some r:=by rw [if_neg (show ¬ (false = true) by decide)] at H;exact H
   clear H
   have H:=H1
   clear H1
   have H':=A_ H
   clear H
   have hnb14:=NB317_318.out
   have hnc14:=NB318_317.out
   have hcz15_0 : w5.cell? ⟨gb317,0,none⟩ = some (.int .i64 a0_0):=(blk_cell BK317.out 0).trans rfl
   have hcz15_1 : w5.cell? ⟨gb317,1,none⟩ = some (.int .i64 a0_1):=(blk_cell BK317.out 1).trans rfl
   have hfz15_0:=blk_frozen BK317.out 0
   have hfz15_1:=blk_frozen BK317.out 1
   go_wp2_with (first|((with_reducible refine gate_callee (f:=73) rfl ?_);refine goesL_ (some 10) rfl rfl Try.func73 (by kernel_rfl) rfl #[.agg #[.int .i64 a0_0,.int .i64 a0_1]] rfl (by (try simp only [List.map_toArray,List.map_cons,List.map_nil]);first|done|rfl|(simp only [List.length_drop,List.length_take];rfl)) ?_;(with_reducible refine (ratio_Valid.calls k a0_0 a0_1 false _ A6.out).mono ?_);rintro e w16 ⟨rfl,hb⟩;refine ⟨_,rfl,?_⟩;have n0_:=A_ (blk_below (g:=gb317) (o:=.cells #[.int .i64 a0_0,.int .i64 a0_1] 36 (0,0)) (by (with_reducible repeat (first|refine blk_drewN ?_ _|refine blk_drew ?_|refine blk_alloc ?_ _));exact BK317.out) hb);have n1_:=A_ (blk_below (g:=gb318) (o:=.cells #[.int .i64 a1_0,.int .i64 a1_1] 36 (0,0)) (by (with_reducible repeat (first|refine blk_drewN ?_ _|refine blk_drew ?_|refine blk_alloc ?_ _));exact BK318.out) hb);have n2_:=A_ (below_step (by repeat (first|(with_reducible first|exact HB.out|apply ba|apply bb|apply bc|refine below_set ?_ GE317.out|refine below_set ?_ GE318.out)|exact HB.out)) hb);clear BK317;clear BK318;clear HB;have BK317:=n0_;have BK318:=n1_;have HB:=n2_;clear n0_ n1_ n2_;(try clear hb);(try clear hb2);(try clear hk);(try clear hi)))
   go_meet
   case rel=>exact ⟨_,(true),(by first|rfl|(simp;done)|(simp [*];done)),H',⟨by first|omega|exact Nat.le_refl _⟩,⟨by (with_reducible repeat (first|refine blk_drewN ?_ _|refine blk_drew ?_|refine blk_alloc ?_ _));exact BK317.out⟩,⟨by (with_reducible repeat (first|refine blk_drewN ?_ _|refine blk_drew ?_|refine blk_alloc ?_ _));exact BK318.out⟩,⟨by repeat (first|(with_reducible first|exact HB.out|apply ba|apply bb|apply bc|refine below_set ?_ GE317.out|refine below_set ?_ GE318.out)|exact HB.out)⟩⟩
 case rest =>
  clear HC3
  try clear c1
  try clear p2
  try clear c6
  try clear c7
  try clear c9
  try clear c14
  try clear hcz10_0
  try clear hcz10_1
  try clear hcz12_0
  try clear hcz12_1
  try clear hcz15_0
  try clear hcz15_1
  try clear hfz10_0
  try clear hfz10_1
  try clear hfz12_0
  try clear hfz12_1
  try clear hfz15_0
  try clear hfz15_1
  obtain ⟨kq,x16_2,rfl,HA,HJ2,BK317,BK318,HB⟩:=hcut
  cases kq with
  | zero=>exact absurd HA.out (by simp [ratio_Cmp.j0])
  | succ kj2 =>
   have H:=HA.out
   clear HA
   simp only [ratio_Cmp.j0] at H
   by_cases c17 : x16_2 = true
   ·
    subst c17
    have H1 : (some 0) = some r:=by rw [if_pos rfl] at H;exact H
    clear H
    have H:=H1
    clear H1
    obtain rfl:=Option.some.inj H
    go_wp2
    go_ret
    exact ⟨by first|rfl|(simp [errW_none,errW_some] <;> rfl)|(simp [*,errW_none,errW_some] <;> rfl),by repeat (first|(with_reducible first|exact HB.out|apply ba|apply bb|apply bc|refine below_set ?_ GE317.out|refine below_set ?_ GE318.out)|exact HB.out)⟩
   ·
    replace c17:=Bool.eq_false_iff.mpr c17
    subst c17
    have H1 : ((bits_Mul64.f (IntKind.u64.wrap (a0_0)) (IntKind.u64.wrap (a1_1))).bind fun bt321=>((bits_Mul64.f (IntKind.u64.wrap (a1_0)) (IntKind.u64.wrap (a0_1))).bind fun bt323=>(if bt321.1 < bt323.1 then (ratio_Cmp.j1 kj2 bt321.1 bt321.2 bt323.1 bt323.2 true) else (if bt321.1 = bt323.1 then (ratio_Cmp.j1 kj2 bt321.1 bt321.2 bt323.1 bt323.2 (decide (bt321.2 < bt323.2))) else (ratio_Cmp.j1 kj2 bt321.1 bt321.2 bt323.1 bt323.2 false))))) = some r:=by rw [if_neg (show ¬ (false = true) by decide)] at H;exact H
    clear H
    have H:=H1
    clear H1
    replace H:=Option.bind_eq_some_iff.mp H
    obtain ⟨⟨t321,t322⟩,A180,H⟩:=H
    replace H : ((bits_Mul64.f (IntKind.u64.wrap (a1_0)) (IntKind.u64.wrap (a0_1))).bind fun bt323=>(if t321 < bt323.1 then (ratio_Cmp.j1 kj2 t321 t322 bt323.1 bt323.2 true) else (if t321 = bt323.1 then (ratio_Cmp.j1 kj2 t321 t322 bt323.1 bt323.2 (decide (t322 < bt323.2))) else (ratio_Cmp.j1 kj2 t321 t322 bt323.1 bt323.2 false)))) = some r:=H
    have A18:=A_ A180
    clear A180
    replace H:=Option.bind_eq_some_iff.mp H
    obtain ⟨⟨t323,t324⟩,A190,H⟩:=H
    replace H : (if t321 < t323 then (ratio_Cmp.j1 kj2 t321 t322 t323 t324 true) else (if t321 = t323 then (ratio_Cmp.j1 kj2 t321 t322 t323 t324 (decide (t322 < t324))) else (ratio_Cmp.j1 kj2 t321 t322 t323 t324 false))) = some r:=H
    have A19:=A_ A190
    clear A190
    have HC20:=A_ H
    clear H
    have hnb21:=NB317_318.out
    have hnc21:=NB318_317.out
    have hcz22_0 : wc.cell? ⟨gb317,0,none⟩ = some (.int .i64 a0_0):=(blk_cell BK317.out 0).trans rfl
    have hcz22_1 : wc.cell? ⟨gb317,1,none⟩ = some (.int .i64 a0_1):=(blk_cell BK317.out 1).trans rfl
    have hfz22_0:=blk_frozen BK317.out 0
    have hfz22_1:=blk_frozen BK317.out 1
    have hcz23_0 : wc.cell? ⟨gb318,0,none⟩ = some (.int .i64 a1_0):=(blk_cell BK318.out 0).trans rfl
    have hcz23_1 : wc.cell? ⟨gb318,1,none⟩ = some (.int .i64 a1_1):=(blk_cell BK318.out 1).trans rfl
    have hfz23_0:=blk_frozen BK318.out 0
    have hfz23_1:=blk_frozen BK318.out 1
    go_upto_region 5 with (first|((with_reducible refine gate_callee (f:=74) rfl ?_);refine goesL_ (some 24) rfl rfl Try.func74 (by kernel_rfl) rfl #[.int .u64 (IntKind.u64.wrap (a0_0)),.int .u64 (IntKind.u64.wrap (a1_1))] rfl (by (try simp only [List.map_toArray,List.map_cons,List.map_nil]);first|done|rfl|(simp only [List.length_drop,List.length_take];rfl)) ?_;(with_reducible refine (bits_Mul64.calls (IntKind.u64.wrap (a0_0)) (IntKind.u64.wrap (a1_1)) t321 t322 _ A18.out).mono ?_);rintro e w' ⟨rfl,⟨nd,rfl⟩⟩;refine ⟨_,rfl,?_⟩)|((with_reducible refine gate_callee (f:=74) rfl ?_);refine goesL_ (some 34) rfl rfl Try.func74 (by kernel_rfl) rfl #[.int .u64 (IntKind.u64.wrap (a1_0)),.int .u64 (IntKind.u64.wrap (a0_1))] rfl (by (try simp only [List.map_toArray,List.map_cons,List.map_nil]);first|done|rfl|(simp only [List.length_drop,List.length_take];rfl)) ?_;(with_reducible refine (bits_Mul64.calls (IntKind.u64.wrap (a1_0)) (IntKind.u64.wrap (a0_1)) t323 t324 _ A19.out).mono ?_);rintro e w' ⟨rfl,⟨nd,rfl⟩⟩;refine ⟨_,rfl,?_⟩))
    (try simp only [Act.put,List.setIfInBounds_toArray,List.set_cons_zero,List.set_cons_succ])
    go_cut [37] (fun v37 wc=>∃ (kq : Nat) (x37_19 : Bool),v37 = .bool x37_19∧Aside0 (ratio_Cmp.j1 kq t321 t322 t323 t324 x37_19 = some r)∧Aside0 (kq ≤ kj2)∧Aside0 (wc.heap[gb317]? = some (.cells #[.int .i64 a0_0,.int .i64 a0_1] 36 (0,0)))∧Aside0 (wc.heap[gb318]? = some (.cells #[.int .i64 a1_0,.int .i64 a1_1] 36 (0,0)))∧Aside0 (Below w.heap.size w wc))
    case first =>
     have H:=HC20.out
     clear HC20
     by_cases c24 : t321 < t323
     ·
      rw [if_pos c24] at H
      have c24b0 : decide (t321 < t323) = true:=decide_eq_true c24
      clear c24
      (first|rw [c24b0]|(simp only [i64_w,i32_w];rw [c24b0])|skip)
      have H':=A_ H
      clear H
      go_wp2
      go_meet
      case rel=>exact ⟨_,(true),(by first|rfl|(simp;done)|(simp [*];done)),H',⟨by have:=HJ2.out;first|omega|exact Nat.le_refl _⟩,⟨by (with_reducible repeat (first|refine blk_drewN ?_ _|refine blk_drew ?_|refine blk_alloc ?_ _));exact BK317.out⟩,⟨by (with_reducible repeat (first|refine blk_drewN ?_ _|refine blk_drew ?_|refine blk_alloc ?_ _));exact BK318.out⟩,⟨by repeat (first|(with_reducible first|exact HB.out|apply ba|apply bb|apply bc|refine below_set ?_ GE317.out|refine below_set ?_ GE318.out)|exact HB.out)⟩⟩
     ·
      rw [if_neg c24] at H
      have c24b0 : decide (t321 < t323) = false:=decide_eq_false c24
      clear c24
      (first|rw [c24b0]|(simp only [i64_w,i32_w];rw [c24b0])|skip)
      by_cases c25 : t321 = t323
      ·
       rw [if_pos c25] at H
       have c25b0 : (t321 == t323) = true:=beq_iff_eq.mpr c25
       have c25b1 : (t321 != t323) = false:=bne_eq_false_iff_eq.mpr c25
       clear c25
       have H':=A_ H
       clear H
       go_wp2
       go_meet
       case rel=>exact ⟨_,(decide (t322 < t324)),(by first|rfl|(simp;done)|(simp [*];done)),H',⟨by have:=HJ2.out;first|omega|exact Nat.le_refl _⟩,⟨by (with_reducible repeat (first|refine blk_drewN ?_ _|refine blk_drew ?_|refine blk_alloc ?_ _));exact BK317.out⟩,⟨by (with_reducible repeat (first|refine blk_drewN ?_ _|refine blk_drew ?_|refine blk_alloc ?_ _));exact BK318.out⟩,⟨by repeat (first|(with_reducible first|exact HB.out|apply ba|apply bb|apply bc|refine below_set ?_ GE317.out|refine below_set ?_ GE318.out)|exact HB.out)⟩⟩
      ·
       rw [if_neg c25] at H
       have c25b0 : (t321 == t323) = false:=beq_eq_false_iff_ne.mpr c25
       have c25b1 : (t321 != t323) = true:=bne_iff_ne.mpr c25
       have H':=A_ H
       clear H
       go_wp2
       go_meet
       case rel=>exact ⟨_,(false),(by first|rfl|(simp;done)|(simp [*];done)),H',⟨by have:=HJ2.out;first|omega|exact Nat.le_refl _⟩,⟨by (with_reducible repeat (first|refine blk_drewN ?_ _|refine blk_drew ?_|refine blk_alloc ?_ _));exact BK317.out⟩,⟨by (with_reducible repeat (first|refine blk_drewN ?_ _|refine blk_drew ?_|refine blk_alloc ?_ _));exact BK318.out⟩,⟨by repeat (first|(with_reducible first|exact HB.out|apply ba|apply bb|apply bc|refine below_set ?_ GE317.out|refine below_set ?_ GE318.out)|exact HB.out)⟩⟩
    case rest =>
     clear HC20
     try clear c1
     try clear c2
     try clear p2
     try clear c6
     try clear c7
     try clear c9
     try clear c14
     try clear c17
     try clear c21
     try clear c24
     try clear c24b0
     try clear c25
     try clear c25b0
     try clear c25b1
     try clear hcz10_0
     try clear hcz10_1
     try clear hcz12_0
     try clear hcz12_1
     try clear hcz15_0
     try clear hcz15_1
     try clear hcz22_0
     try clear hcz22_1
     try clear hcz23_0
     try clear hcz23_1
     try clear hfz10_0
     try clear hfz10_1
     try clear hfz12_0
     try clear hfz12_1
     try clear hfz15_0
     try clear hfz15_1
     try clear hfz22_0
     try clear hfz22_1
     try clear hfz23_0
     try clear hfz23_1
     try clear p2
     obtain ⟨kq,x37_19,rfl,HA,HJ19,BK317,BK318,HB⟩:=hcut
     cases kq with
     | zero=>exact absurd HA.out (by simp [ratio_Cmp.j1])
     | succ kj19 =>
      have H:=HA.out
      clear HA
      simp only [ratio_Cmp.j1] at H
      by_cases c26 : x37_19 = true
      ·
       subst c26
       have H1 : (some (-1)) = some r:=by rw [if_pos rfl] at H;exact H
       clear H
       have H:=H1
       clear H1
       obtain rfl:=Option.some.inj H
       go_wp2
       go_ret
       exact ⟨by first|rfl|(simp [errW_none,errW_some] <;> rfl)|(simp [*,errW_none,errW_some] <;> rfl),by repeat (first|(with_reducible first|exact HB.out|apply ba|apply bb|apply bc|refine below_set ?_ GE317.out|refine below_set ?_ GE318.out)|exact HB.out)⟩
      ·
       replace c26:=Bool.eq_false_iff.mpr c26
       subst c26
       have H1 : (if t321 = t323 then (if t322 = t324 then (some 0) else (some 1)) else (some 1)) = some r:=by rw [if_neg (show ¬ (false = true) by decide)] at H;exact H
       clear H
       have H:=H1
       clear H1
       by_cases c27 : t321 = t323
       ·
        rw [if_pos c27] at H
        have c27b0 : (t321 == t323) = true:=beq_iff_eq.mpr c27
        have c27b1 : (t321 != t323) = false:=bne_eq_false_iff_eq.mpr c27
        clear c27
        by_cases c28 : t322 = t324
        ·
         rw [if_pos c28] at H
         have c28b0 : (t322 == t324) = true:=beq_iff_eq.mpr c28
         have c28b1 : (t322 != t324) = false:=bne_eq_false_iff_eq.mpr c28
         clear c28
         obtain rfl:=Option.some.inj H
         go_wp2
         go_ret
         exact ⟨by first|rfl|(simp [errW_none,errW_some] <;> rfl)|(simp [*,errW_none,errW_some] <;> rfl),by repeat (first|(with_reducible first|exact HB.out|apply ba|apply bb|apply bc|refine below_set ?_ GE317.out|refine below_set ?_ GE318.out)|exact HB.out)⟩
        ·
         rw [if_neg c28] at H
         have c28b0 : (t322 == t324) = false:=beq_eq_false_iff_ne.mpr c28
         have c28b1 : (t322 != t324) = true:=bne_iff_ne.mpr c28
         obtain rfl:=Option.some.inj H
         go_wp2
         go_ret
         exact ⟨by first|rfl|(simp [errW_none,errW_some] <;> rfl)|(simp [*,errW_none,errW_some] <;> rfl),by repeat (first|(with_reducible first|exact HB.out|apply ba|apply bb|apply bc|refine below_set ?_ GE317.out|refine below_set ?_ GE318.out)|exact HB.out)⟩
       ·
        rw [if_neg c27] at H
        have c27b0 : (t321 == t323) = false:=beq_eq_false_iff_ne.mpr c27
        have c27b1 : (t321 != t323) = true:=bne_iff_ne.mpr c27
        obtain rfl:=Option.some.inj H
        go_wp2
        go_ret
        exact ⟨by first|rfl|(simp [errW_none,errW_some] <;> rfl)|(simp [*,errW_none,errW_some] <;> rfl),by repeat (first|(with_reducible first|exact HB.out|apply ba|apply bb|apply bc|refine below_set ?_ GE317.out|refine below_set ?_ GE318.out)|exact HB.out)⟩

/-! ### ratio_Less: function 41 -/
def ratio_Less.f (k : Nat) (a0_0 : Int) (a0_1 : Int) (a1_0 : Int) (a1_1 : Int) : Option (Bool):=(ratio_Cmp.f k a0_0 a0_1 a1_0 a1_1).bind fun t327=>(some (decide (t327 < 0)))
theorem ratio_Less.mono : ∀ a0 a1 a2 a3 k,LeO (ratio_Less.f k a0 a1 a2 a3) (ratio_Less.f (k + 1) a0 a1 a2 a3):=by
 intro a0 a1 a2 a3 k
 unfold ratio_Less.f
 repeat' first
   | (with_reducible exact ratio_Cmp.mono _ _ _ _ _)
   | (with_reducible exact LeO.refl _)
   | (with_reducible exact LeO.none _)
   | (with_reducible refine LeO.ite ?_ ?_)
   | (with_reducible refine LeO.bind ?_ (fun _=>?_))
   | exact ratio_Cmp.mono _ _ _ _ _
   | exact LeO.none _
   | refine LeO.ite ?_ ?_
   | refine LeO.bind ?_ (fun _=>?_)
set_option maxHeartbeats 8000000 in
set_option maxRecDepth 100000 in
theorem ratio_Less.calls (k : Nat) (a0_0 : Int) (a0_1 : Int) (a1_0 : Int) (a1_1 : Int) (r : Bool) (w : World) (h : ratio_Less.f k a0_0 a0_1 a1_0 a1_1 = some r) :
  Calls Try.prog 41 #[.agg #[.int .i64 a0_0,.int .i64 a0_1],.agg #[.int .i64 a1_0,.int .i64 a1_1]] w fun e w'=>e = .returned (.bool r)∧Below w.heap.size w w':=by
 have hu36:=Try.underlying36
 have HB:=A_ (Below.refl w.heap.size w)
 have H : ((ratio_Cmp.f k a0_0 a0_1 a1_0 a1_1).bind fun t327=>(some (decide (t327 < 0)))) = some r:=h
 clear h
 replace H:=Option.bind_eq_some_iff.mp H
 obtain ⟨t327,A30,H⟩:=H
 replace H : (some (decide (t327 < 0))) = some r:=H
 have A3:=A_ A30
 clear A30
 obtain rfl:=Option.some.inj H
 go_enter Try.func41,Try.ntmps41
 go_wp2_with (first|((with_reducible refine gate_dst (N:=2) rfl ?_);refine box_event ?hg (N:=2) ?hd (cs:=#[.int .i64 a0_0,.int .i64 a0_1]) (t:=36) ?hr ?_;(case hd=>rfl);(case hg=>rfl);(case hr=>first|(go_simp;done)|(go_simp;rfl));intro gb325 hg w4 hbox hb;have n0_:=A_ (below_step (by repeat (first|(with_reducible first|exact HB.out|apply ba|apply bb|apply bc)|exact HB.out)) hb);have n1_:=A_ (hbox);have n2_:=A_ ((by rw [hg];exact (below_size (by repeat (first|(with_reducible first|exact HB.out|apply ba|apply bb|apply bc)|exact HB.out))) : w.heap.size ≤ gb325));have n3_:=A_ ((by rw [hg];exact (below_size (by repeat (first|(with_reducible first|exact HB.out|apply ba|apply bb|apply bc)|exact HB.out))) : w.heap.size ≤ gb325));clear HB;have HB:=n0_;have BK325:=n1_;have GW325:=n2_;have GE325:=n3_;clear n0_ n1_ n2_ n3_;clear hb hbox hg)|((with_reducible refine gate_dst (N:=3) rfl ?_);refine box_event ?hg (N:=3) ?hd (cs:=#[.int .i64 a1_0,.int .i64 a1_1]) (t:=36) ?hr ?_;(case hd=>rfl);(case hg=>rfl);(case hr=>first|(go_simp;done)|(go_simp;rfl));intro gb326 hg w5 hbox hb;have n0_:=A_ (blk_below (g:=gb325) (o:=.cells #[.int .i64 a0_0,.int .i64 a0_1] 36 (0,0)) (by (with_reducible repeat (first|refine blk_drewN ?_ _|refine blk_drew ?_|refine blk_alloc ?_ _));exact BK325.out) hb);have n1_:=A_ (below_step (by repeat (first|(with_reducible first|exact HB.out|apply ba|apply bb|apply bc|refine below_set ?_ GE325.out)|exact HB.out)) hb);have n2_:=A_ (hbox);have n3_:=A_ ((by rw [hg];exact (below_size (by repeat (first|(with_reducible first|exact HB.out|apply ba|apply bb|apply bc|refine below_set ?_ GE325.out)|exact HB.out))) : w.heap.size ≤ gb326));have n4_:=A_ ((by rw [hg];exact (below_size (by repeat (first|(with_reducible first|exact HB.out|apply ba|apply bb|apply bc|refine below_set ?_ GE325.out)|exact HB.out))) : w.heap.size ≤ gb326));have n5_:=A_ ((by rw [hg];exact Nat.ne_of_lt (blk_lt (g:=gb325) (o:=.cells #[.int .i64 a0_0,.int .i64 a0_1] 36 (0,0)) (by (with_reducible repeat (first|refine blk_drewN ?_ _|refine blk_drew ?_|refine blk_alloc ?_ _));exact BK325.out)) : gb325≠gb326));have n6_:=A_ ((by rw [hg];exact Nat.ne_of_gt (blk_lt (g:=gb325) (o:=.cells #[.int .i64 a0_0,.int .i64 a0_1] 36 (0,0)) (by (with_reducible repeat (first|refine blk_drewN ?_ _|refine blk_drew ?_|refine blk_alloc ?_ _));exact BK325.out)) : gb326≠gb325));clear BK325;clear HB;have BK325:=n0_;have HB:=n1_;have BK326:=n2_;have GW326:=n3_;have GE326:=n4_;have NB325_326:=n5_;have NB326_325:=n6_;clear n0_ n1_ n2_ n3_ n4_ n5_ n6_;clear hb hbox hg;have hnb6:=NB325_326.out;have hnc6:=NB326_325.out;have hcz7_0 : w5.cell? ⟨gb325,0,none⟩ = some (.int .i64 a0_0):=(blk_cell BK325.out 0).trans rfl;have hcz7_1 : w5.cell? ⟨gb325,1,none⟩ = some (.int .i64 a0_1):=(blk_cell BK325.out 1).trans rfl;have hfz7_0:=blk_frozen BK325.out 0;have hfz7_1:=blk_frozen BK325.out 1;have hcz8_0 : w5.cell? ⟨gb326,0,none⟩ = some (.int .i64 a1_0):=(blk_cell BK326.out 0).trans rfl;have hcz8_1 : w5.cell? ⟨gb326,1,none⟩ = some (.int .i64 a1_1):=(blk_cell BK326.out 1).trans rfl;have hfz8_0:=blk_frozen BK326.out 0;have hfz8_1:=blk_frozen BK326.out 1)|((with_reducible refine gate_callee (f:=63) rfl ?_);refine goesL_ (some 7) rfl rfl Try.func63 (by kernel_rfl) rfl #[.agg #[.int .i64 a0_0,.int .i64 a0_1],.agg #[.int .i64 a1_0,.int .i64 a1_1]] rfl (by (try simp only [List.map_toArray,List.map_cons,List.map_nil]);first|done|rfl|(simp only [List.length_drop,List.length_take];rfl)) ?_;(with_reducible refine (ratio_Cmp.calls k a0_0 a0_1 a1_0 a1_1 t327 _ A3.out).mono ?_);rintro e w9 ⟨rfl,hb⟩;refine ⟨_,rfl,?_⟩;have n0_:=A_ (blk_below (g:=gb325) (o:=.cells #[.int .i64 a0_0,.int .i64 a0_1] 36 (0,0)) (by (with_reducible repeat (first|refine blk_drewN ?_ _|refine blk_drew ?_|refine blk_alloc ?_ _));exact BK325.out) hb);have n1_:=A_ (blk_below (g:=gb326) (o:=.cells #[.int .i64 a1_0,.int .i64 a1_1] 36 (0,0)) (by (with_reducible repeat (first|refine blk_drewN ?_ _|refine blk_drew ?_|refine blk_alloc ?_ _));exact BK326.out) hb);have n2_:=A_ (below_step (by repeat (first|(with_reducible first|exact HB.out|apply ba|apply bb|apply bc|refine below_set ?_ GE325.out|refine below_set ?_ GE326.out)|exact HB.out)) hb);clear BK325;clear BK326;clear HB;have BK325:=n0_;have BK326:=n1_;have HB:=n2_;clear n0_ n1_ n2_;(try clear hb);(try clear hb2);(try clear hk);(try clear hi)))
 go_ret
 exact ⟨by first|rfl|(simp [errW_none,errW_some] <;> rfl)|(simp [*,errW_none,errW_some] <;> rfl),by repeat (first|(with_reducible first|exact HB.out|apply ba|apply bb|apply bc|refine below_set ?_ GE325.out|refine below_set ?_ GE326.out)|exact HB.out)⟩

end Go.Proofs.Ytodipcfbgnljeaa.PChannelsOrder
