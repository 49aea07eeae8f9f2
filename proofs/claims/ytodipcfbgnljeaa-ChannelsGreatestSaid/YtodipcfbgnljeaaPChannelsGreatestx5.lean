/- This file proves, function by function, what the Go functions that one law uses compute; most of it was printed by a program (wip/tools of this session, over the kit's print). -/
import Derived.Test.YtodipcfbgnljeaaPChannelsGreatestx0
import Derived.Test.YtodipcfbgnljeaaPChannelsGreatestx2
import Derived.Test.YtodipcfbgnljeaaPChannelsGreatestx3
import Derived.Test.YtodipcfbgnljeaaPChannelsGreatestx4
namespace Go.Proofs.Ytodipcfbgnljeaa.PChannelsGreatest
open Go.RowKit Go.Proofs.YtodipcfbgnljeaaW.PrintWords Go.Proofs.YtodipcfbgnljeaaW.PrintLast Go.Proofs.YtodipcfbgnljeaaW.PrintMore
attribute [local go_sem] max2_int min2_int max_two min_two max_three min_three max_four min_four   -- for this text's walks alone
set_option linter.unusedVariables false
set_option linter.unusedSimpArgs false

/-! ### normal_gap: function 62 -/
def normal_gap.j0 : Nat → List Int → List Int → Int → Int → Bool → Option (Int × Int × Int)
 | 0,_,_,_,_,_=>none
 | k + 1,x0,x1,x6,x7,x13=>if x13 = true then ((ratio_Make.f k 0 1).bind fun bt160=>(some (bt160.1,bt160.2.1,bt160.2.2))) else (if x6 = 0 then ((ratio_Make.f k 1 1).bind fun bt163=>(some (bt163.1,bt163.2.1,bt163.2.2))) else (if x7 = 0 then ((ratio_Make.f k 1 1).bind fun bt166=>(some (bt166.1,bt166.2.1,bt166.2.2))) else ((normal_product.f k x0 x1).bind fun t169=>(if t169 < 0 then ((ratio_Make.f k (wrap64 ((wrap64 (x6 * x7)) + (wrap64 (t169 * t169)))) (wrap64 (x6 * x7))).bind fun bt170=>(some (bt170.1,bt170.2.1,bt170.2.2))) else ((ratio_Make.f k (wrap64 ((wrap64 (x6 * x7)) - (wrap64 (t169 * t169)))) (wrap64 (x6 * x7))).bind fun bt173=>(some (bt173.1,bt173.2.1,bt173.2.2)))))))
def normal_gap.f (k : Nat) (l0 : List Int) (l1 : List Int) : Option (Int × Int × Int):=(normal_variance.f k l0).bind fun t158=>((normal_variance.f k l1).bind fun t159=>(if t158 = 0 then (normal_gap.j0 k l0 l1 t158 t159 (t159 == 0)) else (normal_gap.j0 k l0 l1 t158 t159 false)))
theorem normal_gap.mono_l : ∀ k,(∀ y0 y1 y2 y3 y4,LeO (normal_gap.j0 k y0 y1 y2 y3 y4) (normal_gap.j0 (k + 1) y0 y1 y2 y3 y4))
 | 0=>fun _ _ _ _ _ r h=>by simp [normal_gap.j0] at h
 | k + 1=>by
  have ih0:=normal_gap.mono_l k
  ·
   intro y0 y1 y2 y3 y4
   unfold normal_gap.j0
   repeat' first
   | (with_reducible exact ih0 _ _ _ _ _)
   | (with_reducible exact normal_product.mono _ _ _)
   | (with_reducible exact normal_variance.mono _ _)
   | (with_reducible exact ratio_Make.mono _ _ _)
   | (with_reducible exact LeO.refl _)
   | (with_reducible exact LeO.none _)
   | (with_reducible refine LeO.ite ?_ ?_)
   | (with_reducible refine LeO.bind ?_ (fun _=>?_))
   | exact ih0 _ _ _ _ _
   | exact normal_product.mono _ _ _
   | exact normal_variance.mono _ _
   | exact ratio_Make.mono _ _ _
   | exact LeO.none _
   | refine LeO.ite ?_ ?_
   | refine LeO.bind ?_ (fun _=>?_)
theorem normal_gap.mono : ∀ a0 a1 k,LeO (normal_gap.f k a0 a1) (normal_gap.f (k + 1) a0 a1):=by
 intro a0 a1 k
 have ih0:=normal_gap.mono_l k
 unfold normal_gap.f
 repeat' first
   | (with_reducible exact ih0 _ _ _ _ _)
   | (with_reducible exact normal_product.mono _ _ _)
   | (with_reducible exact normal_variance.mono _ _)
   | (with_reducible exact ratio_Make.mono _ _ _)
   | (with_reducible exact LeO.refl _)
   | (with_reducible exact LeO.none _)
   | (with_reducible refine LeO.ite ?_ ?_)
   | (with_reducible refine LeO.bind ?_ (fun _=>?_))
   | exact ih0 _ _ _ _ _
   | exact normal_product.mono _ _ _
   | exact normal_variance.mono _ _
   | exact ratio_Make.mono _ _ _
   | exact LeO.none _
   | refine LeO.ite ?_ ?_
   | refine LeO.bind ?_ (fun _=>?_)
set_option maxHeartbeats 8000000 in
set_option maxRecDepth 100000 in
theorem normal_gap.calls (k : Nat) (A0 : Option Addr) (c0 : Nat) (l0 : List Int) (A1 : Option Addr) (c1 : Nat) (l1 : List Int) (r1 : Int) (r2 : Int) (r3 : Int) (w : World) (hr0 : Kd.C (Kd.int .i64) w A0 l0.length l0) (hc0 : l0.length ≤ c0) (hr1 : Kd.C (Kd.int .i64) w A1 l1.length l1) (hc1 : l1.length ≤ c1) (h : normal_gap.f k l0 l1 = some (r1,r2,r3)) :
  Calls Try.prog 62 #[.slice A0 l0.length c0,.slice A1 l1.length c1] w fun e w'=>e = .returned (.tuple #[.agg #[.int .i64 r1,.int .i64 r2],.int .i64 r3])∧Below w.heap.size w w':=by
 have hu36:=Try.underlying36
 have HR0:=A_ hr0
 have HC0:=A_ hc0
 clear hr0 hc0
 have HR1:=A_ hr1
 have HC1:=A_ hc1
 clear hr1 hc1
 have HB:=A_ (Below.refl w.heap.size w)
 have H : ((normal_variance.f k l0).bind fun t158=>((normal_variance.f k l1).bind fun t159=>(if t158 = 0 then (normal_gap.j0 k l0 l1 t158 t159 (t159 == 0)) else (normal_gap.j0 k l0 l1 t158 t159 false)))) = some (r1,r2,r3):=h
 clear h
 replace H:=Option.bind_eq_some_iff.mp H
 obtain ⟨t158,A30,H⟩:=H
 replace H : ((normal_variance.f k l1).bind fun t159=>(if t158 = 0 then (normal_gap.j0 k l0 l1 t158 t159 (t159 == 0)) else (normal_gap.j0 k l0 l1 t158 t159 false))) = some (r1,r2,r3):=H
 have A3:=A_ A30
 clear A30
 replace H:=Option.bind_eq_some_iff.mp H
 obtain ⟨t159,A40,H⟩:=H
 replace H : (if t158 = 0 then (normal_gap.j0 k l0 l1 t158 t159 (t159 == 0)) else (normal_gap.j0 k l0 l1 t158 t159 false)) = some (r1,r2,r3):=H
 have A4:=A_ A40
 clear A40
 have HC5:=A_ H
 clear H
 go_enter Try.func62,Try.ntmps62
 go_upto_region 2 with (first|((with_reducible refine gate_dst (N:=4) rfl ?_);refine box_event ?hg (N:=4) ?hd (cs:=#[.int .i64 0,.int .i64 0]) (t:=36) ?hr ?_;(case hd=>rfl);(case hg=>rfl);(case hr=>first|(go_simp;done)|(go_simp;rfl));intro gb157 hg w6 hbox hb;have n0_:=A_ (below_step (by repeat (first|(with_reducible first|exact HB.out|apply ba|apply bb|apply bc)|exact HB.out)) hb);have n1_:=A_ (hbox);have n2_:=A_ ((by rw [hg];exact (below_size (by repeat (first|(with_reducible first|exact HB.out|apply ba|apply bb|apply bc)|exact HB.out))) : w.heap.size ≤ gb157));have n3_:=A_ ((by rw [hg];exact (below_size (by repeat (first|(with_reducible first|exact HB.out|apply ba|apply bb|apply bc)|exact HB.out))) : w.heap.size ≤ gb157));clear HB;have HB:=n0_;have BK157:=n1_;have GW157:=n2_;have GE157:=n3_;clear n0_ n1_ n2_ n3_;clear hb hbox hg)|((with_reducible refine gate_callee (f:=70) rfl ?_);refine goesL_ (some 10) rfl rfl Try.func70 (by kernel_rfl) rfl #[.slice A0 l0.length c0] rfl (by (try simp only [List.map_toArray,List.map_cons,List.map_nil]);first|done|rfl|(simp only [List.length_drop,List.length_take];rfl)) ?_;(with_reducible refine (normal_variance.calls k _ _ l0 t158 _ ?side1 ?side2 A3.out).mono ?_);(case side1=>repeat (first|exact (cl HR0.out HB.out)|(with_reducible refine ca ?_ _)|(with_reducible refine cb ?_ _)|(with_reducible refine cc ?_)));(case side2=>exact HC0.out);rintro e w7 ⟨rfl,hb⟩;refine ⟨_,rfl,?_⟩;have n0_:=A_ (blk_below (g:=gb157) (o:=.cells #[.int .i64 0,.int .i64 0] 36 (0,0)) (by (with_reducible repeat (first|refine blk_drewN ?_ _|refine blk_drew ?_|refine blk_alloc ?_ _));exact BK157.out) hb);have n1_:=A_ (below_step (by repeat (first|(with_reducible first|exact HB.out|apply ba|apply bb|apply bc|refine below_set ?_ GE157.out)|exact HB.out)) hb);clear BK157;clear HB;have BK157:=n0_;have HB:=n1_;clear n0_ n1_;(try clear hb);(try clear hb2);(try clear hk);(try clear hi))|((with_reducible refine gate_callee (f:=70) rfl ?_);refine goesL_ (some 12) rfl rfl Try.func70 (by kernel_rfl) rfl #[.slice A1 l1.length c1] rfl (by (try simp only [List.map_toArray,List.map_cons,List.map_nil]);first|done|rfl|(simp only [List.length_drop,List.length_take];rfl)) ?_;(with_reducible refine (normal_variance.calls k _ _ l1 t159 _ ?side1 ?side2 A4.out).mono ?_);(case side1=>repeat (first|exact (cl HR1.out HB.out)|(with_reducible refine ca ?_ _)|(with_reducible refine cb ?_ _)|(with_reducible refine cc ?_)));(case side2=>exact HC1.out);rintro e w8 ⟨rfl,hb⟩;refine ⟨_,rfl,?_⟩;have n0_:=A_ (blk_below (g:=gb157) (o:=.cells #[.int .i64 0,.int .i64 0] 36 (0,0)) (by (with_reducible repeat (first|refine blk_drewN ?_ _|refine blk_drew ?_|refine blk_alloc ?_ _));exact BK157.out) hb);have n1_:=A_ (below_step (by repeat (first|(with_reducible first|exact HB.out|apply ba|apply bb|apply bc|refine below_set ?_ GE157.out)|exact HB.out)) hb);clear BK157;clear HB;have BK157:=n0_;have HB:=n1_;clear n0_ n1_;(try clear hb);(try clear hb2);(try clear hk);(try clear hi)))
 (try simp only [Act.put,List.setIfInBounds_toArray,List.set_cons_zero,List.set_cons_succ])
 go_cut [13] (fun v13 wc=>∃ (kq : Nat) (x13_4 : Bool),v13 = .bool x13_4∧Aside0 (normal_gap.j0 kq l0 l1 t158 t159 x13_4 = some (r1,r2,r3))∧Aside0 (kq ≤ k)∧Aside0 (wc.heap[gb157]? = some (.cells #[.int .i64 0,.int .i64 0] 36 (0,0)))∧Aside0 (Below w.heap.size w wc))
 case first =>
  have H:=HC5.out
  clear HC5
  by_cases c9 : t158 = 0
  ·
   rw [if_pos c9] at H
   have c9b0 : (t158 == 0) = true:=beq_iff_eq.mpr c9
   have c9b1 : (t158 != 0) = false:=bne_eq_false_iff_eq.mpr c9
   clear c9
   (first|rw [c9b0]|(simp only [i64_w,i32_w];rw [c9b0])|skip)
   have H':=A_ H
   clear H
   go_wp2
   go_meet
   case rel=>exact ⟨_,((t159 == 0)),(by first|rfl|(simp;done)|(simp [*];done)),H',⟨by first|omega|exact Nat.le_refl _⟩,⟨by (with_reducible repeat (first|refine blk_drewN ?_ _|refine blk_drew ?_|refine blk_alloc ?_ _));exact BK157.out⟩,⟨by repeat (first|(with_reducible first|exact HB.out|apply ba|apply bb|apply bc|refine below_set ?_ GE157.out)|exact HB.out)⟩⟩
  ·
   rw [if_neg c9] at H
   have c9b0 : (t158 == 0) = false:=beq_eq_false_iff_ne.mpr c9
   have c9b1 : (t158 != 0) = true:=bne_iff_ne.mpr c9
   (first|rw [c9b0]|(simp only [i64_w,i32_w];rw [c9b0])|skip)
   have H':=A_ H
   clear H
   go_wp2
   go_meet
   case rel=>exact ⟨_,(false),(by first|rfl|(simp;done)|(simp [*];done)),H',⟨by first|omega|exact Nat.le_refl _⟩,⟨by (with_reducible repeat (first|refine blk_drewN ?_ _|refine blk_drew ?_|refine blk_alloc ?_ _));exact BK157.out⟩,⟨by repeat (first|(with_reducible first|exact HB.out|apply ba|apply bb|apply bc|refine below_set ?_ GE157.out)|exact HB.out)⟩⟩
 case rest =>
  clear HC5
  try clear c1
  try clear p2
  try clear c6
  try clear c7
  try clear c9
  try clear c9b0
  try clear c9b1
  obtain ⟨kq,x13_4,rfl,HA,HJ4,BK157,HB⟩:=hcut
  cases kq with
  | zero=>exact absurd HA.out (by simp [normal_gap.j0])
  | succ kj4 =>
   have H:=HA.out
   clear HA
   simp only [normal_gap.j0] at H
   by_cases c10 : x13_4 = true
   ·
    subst c10
    have H1 : ((ratio_Make.f kj4 0 1).bind fun bt160=>(some (bt160.1,bt160.2.1,bt160.2.2))) = some (r1,r2,r3):=by rw [if_pos rfl] at H;exact H
    clear H
    have H:=H1
    clear H1
    replace H:=Option.bind_eq_some_iff.mp H
    obtain ⟨⟨t160,t161,t162⟩,A110,H⟩:=H
    replace H : (some (t160,t161,t162)) = some (r1,r2,r3):=H
    have A11:=A_ A110
    clear A110
    simp only [Option.some.injEq,Prod.mk.injEq] at H
    obtain ⟨rfl,rfl,rfl⟩:=H
    go_wp2_with (first|((with_reducible refine gate_callee (f:=71) rfl ?_);refine goesL_ (some 20) rfl rfl Try.func71 (by kernel_rfl) rfl #[.int .i64 0,.int .i64 1] rfl (by (try simp only [List.map_toArray,List.map_cons,List.map_nil]);first|done|rfl|(simp only [List.length_drop,List.length_take];rfl)) ?_;(with_reducible refine (ratio_Make.calls kj4 0 1 t160 t161 t162 _ A11.out).mono ?_);rintro e w12 ⟨rfl,hb⟩;refine ⟨_,rfl,?_⟩;have n0_:=A_ (blk_below (g:=gb157) (o:=.cells #[.int .i64 0,.int .i64 0] 36 (0,0)) (by (with_reducible repeat (first|refine blk_drewN ?_ _|refine blk_drew ?_|refine blk_alloc ?_ _));exact BK157.out) hb);have n1_:=A_ (below_step (by repeat (first|(with_reducible first|exact HB.out|apply ba|apply bb|apply bc|refine below_set ?_ GE157.out)|exact HB.out)) hb);clear BK157;clear HB;have BK157:=n0_;have HB:=n1_;clear n0_ n1_;(try clear hb);(try clear hb2);(try clear hk);(try clear hi);have hcz13_0 : w12.cell? ⟨gb157,0,none⟩ = some (.int .i64 0):=(blk_cell BK157.out 0).trans rfl;have hcz13_1 : w12.cell? ⟨gb157,1,none⟩ = some (.int .i64 0):=(blk_cell BK157.out 1).trans rfl;have hfz13_0:=blk_frozen BK157.out 0;have hfz13_1:=blk_frozen BK157.out 1))
    refine bodyPost_ret (results_ct rfl _ _ gb157 36 #[.int .i64 t160,.int .i64 t161] (0,0) _ rfl (by (with_reducible repeat (first|refine blk_drewN ?_ _|refine blk_drew ?_|refine blk_alloc ?_ _));refine blk_put (cs:=#[.int .i64 t160,.int .i64 0]) ?_ 1 _ rfl;(with_reducible repeat (first|refine blk_drewN ?_ _|refine blk_drew ?_|refine blk_alloc ?_ _));refine blk_put (cs:=#[.int .i64 0,.int .i64 0]) ?_ 0 _ rfl;(with_reducible repeat (first|refine blk_drewN ?_ _|refine blk_drew ?_|refine blk_alloc ?_ _));exact BK157.out) Try.underlying36 rfl (by kernel_rfl)) rfl ?_
    exact ⟨by first|rfl|(simp [errW_none,errW_some] <;> rfl)|(simp [*,errW_none,errW_some] <;> rfl),by repeat (first|(with_reducible first|exact HB.out|apply ba|apply bb|apply bc|refine below_set ?_ GE157.out)|exact HB.out)⟩
   ·
    replace c10:=Bool.eq_false_iff.mpr c10
    subst c10
    have H1 : (if t158 = 0 then ((ratio_Make.f kj4 1 1).bind fun bt163=>(some (bt163.1,bt163.2.1,bt163.2.2))) else (if t159 = 0 then ((ratio_Make.f kj4 1 1).bind fun bt166=>(some (bt166.1,bt166.2.1,bt166.2.2))) else ((normal_product.f kj4 l0 l1).bind fun t169=>(if t169 < 0 then ((ratio_Make.f kj4 (wrap64 ((wrap64 (t158 * t159)) + (wrap64 (t169 * t169)))) (wrap64 (t158 * t159))).bind fun bt170=>(some (bt170.1,bt170.2.1,bt170.2.2))) else ((ratio_Make.f kj4 (wrap64 ((wrap64 (t158 * t159)) - (wrap64 (t169 * t169)))) (wrap64 (t158 * t159))).bind fun bt173=>(some (bt173.1,bt173.2.1,bt173.2.2))))))) = some (r1,r2,r3):=by rw [if_neg (show ¬ (false = true) by decide)] at H;exact H
    clear H
    have H:=H1
    clear H1
    by_cases c14 : t158 = 0
    ·
     rw [if_pos c14] at H
     have c14b0 : (t158 == 0) = true:=beq_iff_eq.mpr c14
     have c14b1 : (t158 != 0) = false:=bne_eq_false_iff_eq.mpr c14
     clear c14
     replace H:=Option.bind_eq_some_iff.mp H
     obtain ⟨⟨t163,t164,t165⟩,A150,H⟩:=H
     replace H : (some (t163,t164,t165)) = some (r1,r2,r3):=H
     have A15:=A_ A150
     clear A150
     simp only [Option.some.injEq,Prod.mk.injEq] at H
     obtain ⟨rfl,rfl,rfl⟩:=H
     go_wp2_with (first|((with_reducible refine gate_callee (f:=71) rfl ?_);refine goesL_ (some 30) rfl rfl Try.func71 (by kernel_rfl) rfl #[.int .i64 1,.int .i64 1] rfl (by (try simp only [List.map_toArray,List.map_cons,List.map_nil]);first|done|rfl|(simp only [List.length_drop,List.length_take];rfl)) ?_;(with_reducible refine (ratio_Make.calls kj4 1 1 t163 t164 t165 _ A15.out).mono ?_);rintro e w16 ⟨rfl,hb⟩;refine ⟨_,rfl,?_⟩;have n0_:=A_ (blk_below (g:=gb157) (o:=.cells #[.int .i64 0,.int .i64 0] 36 (0,0)) (by (with_reducible repeat (first|refine blk_drewN ?_ _|refine blk_drew ?_|refine blk_alloc ?_ _));exact BK157.out) hb);have n1_:=A_ (below_step (by repeat (first|(with_reducible first|exact HB.out|apply ba|apply bb|apply bc|refine below_set ?_ GE157.out)|exact HB.out)) hb);clear BK157;clear HB;have BK157:=n0_;have HB:=n1_;clear n0_ n1_;(try clear hb);(try clear hb2);(try clear hk);(try clear hi);have hcz17_0 : w16.cell? ⟨gb157,0,none⟩ = some (.int .i64 0):=(blk_cell BK157.out 0).trans rfl;have hcz17_1 : w16.cell? ⟨gb157,1,none⟩ = some (.int .i64 0):=(blk_cell BK157.out 1).trans rfl;have hfz17_0:=blk_frozen BK157.out 0;have hfz17_1:=blk_frozen BK157.out 1))
     refine bodyPost_ret (results_ct rfl _ _ gb157 36 #[.int .i64 t163,.int .i64 t164] (0,0) _ rfl (by (with_reducible repeat (first|refine blk_drewN ?_ _|refine blk_drew ?_|refine blk_alloc ?_ _));refine blk_put (cs:=#[.int .i64 t163,.int .i64 0]) ?_ 1 _ rfl;(with_reducible repeat (first|refine blk_drewN ?_ _|refine blk_drew ?_|refine blk_alloc ?_ _));refine blk_put (cs:=#[.int .i64 0,.int .i64 0]) ?_ 0 _ rfl;(with_reducible repeat (first|refine blk_drewN ?_ _|refine blk_drew ?_|refine blk_alloc ?_ _));exact BK157.out) Try.underlying36 rfl (by kernel_rfl)) rfl ?_
     exact ⟨by first|rfl|(simp [errW_none,errW_some] <;> rfl)|(simp [*,errW_none,errW_some] <;> rfl),by repeat (first|(with_reducible first|exact HB.out|apply ba|apply bb|apply bc|refine below_set ?_ GE157.out)|exact HB.out)⟩
    ·
     rw [if_neg c14] at H
     have c14b0 : (t158 == 0) = false:=beq_eq_false_iff_ne.mpr c14
     have c14b1 : (t158 != 0) = true:=bne_iff_ne.mpr c14
     by_cases c18 : t159 = 0
     ·
      rw [if_pos c18] at H
      have c18b0 : (t159 == 0) = true:=beq_iff_eq.mpr c18
      have c18b1 : (t159 != 0) = false:=bne_eq_false_iff_eq.mpr c18
      clear c18
      replace H:=Option.bind_eq_some_iff.mp H
      obtain ⟨⟨t166,t167,t168⟩,A190,H⟩:=H
      replace H : (some (t166,t167,t168)) = some (r1,r2,r3):=H
      have A19:=A_ A190
      clear A190
      simp only [Option.some.injEq,Prod.mk.injEq] at H
      obtain ⟨rfl,rfl,rfl⟩:=H
      go_wp2_with (first|((with_reducible refine gate_callee (f:=71) rfl ?_);refine goesL_ (some 30) rfl rfl Try.func71 (by kernel_rfl) rfl #[.int .i64 1,.int .i64 1] rfl (by (try simp only [List.map_toArray,List.map_cons,List.map_nil]);first|done|rfl|(simp only [List.length_drop,List.length_take];rfl)) ?_;(with_reducible refine (ratio_Make.calls kj4 1 1 t166 t167 t168 _ A19.out).mono ?_);rintro e w20 ⟨rfl,hb⟩;refine ⟨_,rfl,?_⟩;have n0_:=A_ (blk_below (g:=gb157) (o:=.cells #[.int .i64 0,.int .i64 0] 36 (0,0)) (by (with_reducible repeat (first|refine blk_drewN ?_ _|refine blk_drew ?_|refine blk_alloc ?_ _));exact BK157.out) hb);have n1_:=A_ (below_step (by repeat (first|(with_reducible first|exact HB.out|apply ba|apply bb|apply bc|refine below_set ?_ GE157.out)|exact HB.out)) hb);clear BK157;clear HB;have BK157:=n0_;have HB:=n1_;clear n0_ n1_;(try clear hb);(try clear hb2);(try clear hk);(try clear hi);have hcz21_0 : w20.cell? ⟨gb157,0,none⟩ = some (.int .i64 0):=(blk_cell BK157.out 0).trans rfl;have hcz21_1 : w20.cell? ⟨gb157,1,none⟩ = some (.int .i64 0):=(blk_cell BK157.out 1).trans rfl;have hfz21_0:=blk_frozen BK157.out 0;have hfz21_1:=blk_frozen BK157.out 1))
      refine bodyPost_ret (results_ct rfl _ _ gb157 36 #[.int .i64 t166,.int .i64 t167] (0,0) _ rfl (by (with_reducible repeat (first|refine blk_drewN ?_ _|refine blk_drew ?_|refine blk_alloc ?_ _));refine blk_put (cs:=#[.int .i64 t166,.int .i64 0]) ?_ 1 _ rfl;(with_reducible repeat (first|refine blk_drewN ?_ _|refine blk_drew ?_|refine blk_alloc ?_ _));refine blk_put (cs:=#[.int .i64 0,.int .i64 0]) ?_ 0 _ rfl;(with_reducible repeat (first|refine blk_drewN ?_ _|refine blk_drew ?_|refine blk_alloc ?_ _));exact BK157.out) Try.underlying36 rfl (by kernel_rfl)) rfl ?_
      exact ⟨by first|rfl|(simp [errW_none,errW_some] <;> rfl)|(simp [*,errW_none,errW_some] <;> rfl),by repeat (first|(with_reducible first|exact HB.out|apply ba|apply bb|apply bc|refine below_set ?_ GE157.out)|exact HB.out)⟩
     ·
      rw [if_neg c18] at H
      have c18b0 : (t159 == 0) = false:=beq_eq_false_iff_ne.mpr c18
      have c18b1 : (t159 != 0) = true:=bne_iff_ne.mpr c18
      replace H:=Option.bind_eq_some_iff.mp H
      obtain ⟨t169,A220,H⟩:=H
      replace H : (if t169 < 0 then ((ratio_Make.f kj4 (wrap64 ((wrap64 (t158 * t159)) + (wrap64 (t169 * t169)))) (wrap64 (t158 * t159))).bind fun bt170=>(some (bt170.1,bt170.2.1,bt170.2.2))) else ((ratio_Make.f kj4 (wrap64 ((wrap64 (t158 * t159)) - (wrap64 (t169 * t169)))) (wrap64 (t158 * t159))).bind fun bt173=>(some (bt173.1,bt173.2.1,bt173.2.2)))) = some (r1,r2,r3):=H
      have A22:=A_ A220
      clear A220
      by_cases c23 : t169 < 0
      ·
       rw [if_pos c23] at H
       have c23b0 : decide (t169 < 0) = true:=decide_eq_true c23
       clear c23
       replace H:=Option.bind_eq_some_iff.mp H
       obtain ⟨⟨t170,t171,t172⟩,A240,H⟩:=H
       replace H : (some (t170,t171,t172)) = some (r1,r2,r3):=H
       have A24:=A_ A240
       clear A240
       simp only [Option.some.injEq,Prod.mk.injEq] at H
       obtain ⟨rfl,rfl,rfl⟩:=H
       go_wp2_with (first|((with_reducible refine gate_callee (f:=72) rfl ?_);refine goesL_ (some 35) rfl rfl Try.func72 (by kernel_rfl) rfl #[.slice A0 l0.length c0,.slice A1 l1.length c1] rfl (by (try simp only [List.map_toArray,List.map_cons,List.map_nil]);first|done|rfl|(simp only [List.length_drop,List.length_take];rfl)) ?_;(with_reducible refine (normal_product.calls kj4 _ _ l0 _ _ l1 t169 _ ?side1 ?side2 ?side3 ?side4 A22.out).mono ?_);(case side1=>repeat (first|exact (cl HR0.out HB.out)|(with_reducible refine ca ?_ _)|(with_reducible refine cb ?_ _)|(with_reducible refine cc ?_)));(case side2=>exact HC0.out);(case side3=>repeat (first|exact (cl HR1.out HB.out)|(with_reducible refine ca ?_ _)|(with_reducible refine cb ?_ _)|(with_reducible refine cc ?_)));(case side4=>exact HC1.out);rintro e w' ⟨rfl,⟨nd,rfl⟩⟩;refine ⟨_,rfl,?_⟩;(try (rw [drewN_self wc];generalize hq_ : World.drewN wc _ = wc;have n0_ : Aside0 (wc.heap[gb157]? = some (.cells #[.int .i64 0,.int .i64 0] 36 (0,0))):=⟨by rw [← hq_];exact (by (with_reducible repeat (first|refine blk_drewN ?_ _|refine blk_drew ?_|refine blk_alloc ?_ _));exact BK157.out)⟩;have n1_ : Aside0 (Below w.heap.size w wc):=⟨by rw [← hq_];exact (by repeat (first|(with_reducible first|exact HB.out|apply ba|apply bb|apply bc|refine below_set ?_ GE157.out)|exact HB.out))⟩;clear BK157 HB hq_;have BK157:=n0_;have HB:=n1_;clear n0_ n1_)))|((with_reducible refine gate_callee (f:=71) rfl ?_);refine goesL_ (some 48) rfl rfl Try.func71 (by kernel_rfl) rfl #[.int .i64 (wrap64 ((wrap64 (t158 * t159)) + (wrap64 (t169 * t169)))),.int .i64 (wrap64 (t158 * t159))] rfl (by (try simp only [List.map_toArray,List.map_cons,List.map_nil]);first|done|rfl|(simp only [List.length_drop,List.length_take];rfl)) ?_;(with_reducible refine (ratio_Make.calls kj4 (wrap64 ((wrap64 (t158 * t159)) + (wrap64 (t169 * t169)))) (wrap64 (t158 * t159)) t170 t171 t172 _ A24.out).mono ?_);rintro e w25 ⟨rfl,hb⟩;refine ⟨_,rfl,?_⟩;have n0_:=A_ (blk_below (g:=gb157) (o:=.cells #[.int .i64 0,.int .i64 0] 36 (0,0)) (by (with_reducible repeat (first|refine blk_drewN ?_ _|refine blk_drew ?_|refine blk_alloc ?_ _));exact BK157.out) hb);have n1_:=A_ (below_step (by repeat (first|(with_reducible first|exact HB.out|apply ba|apply bb|apply bc|refine below_set ?_ GE157.out)|exact HB.out)) hb);clear BK157;clear HB;have BK157:=n0_;have HB:=n1_;clear n0_ n1_;(try clear hb);(try clear hb2);(try clear hk);(try clear hi);have hcz26_0 : w25.cell? ⟨gb157,0,none⟩ = some (.int .i64 0):=(blk_cell BK157.out 0).trans rfl;have hcz26_1 : w25.cell? ⟨gb157,1,none⟩ = some (.int .i64 0):=(blk_cell BK157.out 1).trans rfl;have hfz26_0:=blk_frozen BK157.out 0;have hfz26_1:=blk_frozen BK157.out 1))
       refine bodyPost_ret (results_ct rfl _ _ gb157 36 #[.int .i64 t170,.int .i64 t171] (0,0) _ rfl (by (with_reducible repeat (first|refine blk_drewN ?_ _|refine blk_drew ?_|refine blk_alloc ?_ _));refine blk_put (cs:=#[.int .i64 t170,.int .i64 0]) ?_ 1 _ rfl;(with_reducible repeat (first|refine blk_drewN ?_ _|refine blk_drew ?_|refine blk_alloc ?_ _));refine blk_put (cs:=#[.int .i64 0,.int .i64 0]) ?_ 0 _ rfl;(with_reducible repeat (first|refine blk_drewN ?_ _|refine blk_drew ?_|refine blk_alloc ?_ _));exact BK157.out) Try.underlying36 rfl (by kernel_rfl)) rfl ?_
       exact ⟨by first|rfl|(simp [errW_none,errW_some] <;> rfl)|(simp [*,errW_none,errW_some] <;> rfl),by repeat (first|(with_reducible first|exact HB.out|apply ba|apply bb|apply bc|refine below_set ?_ GE157.out)|exact HB.out)⟩
      ·
       rw [if_neg c23] at H
       have c23b0 : decide (t169 < 0) = false:=decide_eq_false c23
       clear c23
       replace H:=Option.bind_eq_some_iff.mp H
       obtain ⟨⟨t173,t174,t175⟩,A270,H⟩:=H
       replace H : (some (t173,t174,t175)) = some (r1,r2,r3):=H
       have A27:=A_ A270
       clear A270
       simp only [Option.some.injEq,Prod.mk.injEq] at H
       obtain ⟨rfl,rfl,rfl⟩:=H
       go_wp2_with (first|((with_reducible refine gate_callee (f:=72) rfl ?_);refine goesL_ (some 35) rfl rfl Try.func72 (by kernel_rfl) rfl #[.slice A0 l0.length c0,.slice A1 l1.length c1] rfl (by (try simp only [List.map_toArray,List.map_cons,List.map_nil]);first|done|rfl|(simp only [List.length_drop,List.length_take];rfl)) ?_;(with_reducible refine (normal_product.calls kj4 _ _ l0 _ _ l1 t169 _ ?side1 ?side2 ?side3 ?side4 A22.out).mono ?_);(case side1=>repeat (first|exact (cl HR0.out HB.out)|(with_reducible refine ca ?_ _)|(with_reducible refine cb ?_ _)|(with_reducible refine cc ?_)));(case side2=>exact HC0.out);(case side3=>repeat (first|exact (cl HR1.out HB.out)|(with_reducible refine ca ?_ _)|(with_reducible refine cb ?_ _)|(with_reducible refine cc ?_)));(case side4=>exact HC1.out);rintro e w' ⟨rfl,⟨nd,rfl⟩⟩;refine ⟨_,rfl,?_⟩;(try (rw [drewN_self wc];generalize hq_ : World.drewN wc _ = wc;have n0_ : Aside0 (wc.heap[gb157]? = some (.cells #[.int .i64 0,.int .i64 0] 36 (0,0))):=⟨by rw [← hq_];exact (by (with_reducible repeat (first|refine blk_drewN ?_ _|refine blk_drew ?_|refine blk_alloc ?_ _));exact BK157.out)⟩;have n1_ : Aside0 (Below w.heap.size w wc):=⟨by rw [← hq_];exact (by repeat (first|(with_reducible first|exact HB.out|apply ba|apply bb|apply bc|refine below_set ?_ GE157.out)|exact HB.out))⟩;clear BK157 HB hq_;have BK157:=n0_;have HB:=n1_;clear n0_ n1_)))|((with_reducible refine gate_callee (f:=71) rfl ?_);refine goesL_ (some 61) rfl rfl Try.func71 (by kernel_rfl) rfl #[.int .i64 (wrap64 ((wrap64 (t158 * t159)) - (wrap64 (t169 * t169)))),.int .i64 (wrap64 (t158 * t159))] rfl (by (try simp only [List.map_toArray,List.map_cons,List.map_nil]);first|done|rfl|(simp only [List.length_drop,List.length_take];rfl)) ?_;(with_reducible refine (ratio_Make.calls kj4 (wrap64 ((wrap64 (t158 * t159)) - (wrap64 (t169 * t169)))) (wrap64 (t158 * t159)) t173 t174 t175 _ A27.out).mono ?_);rintro e w28 ⟨rfl,hb⟩;refine ⟨_,rfl,?_⟩;have n0_:=A_ (blk_below (g:=gb157) (o:=.cells #[.int .i64 0,.int .i64 0] 36 (0,0)) (by (with_reducible repeat (first|refine blk_drewN ?_ _|refine blk_drew ?_|refine blk_alloc ?_ _));exact BK157.out) hb);have n1_:=A_ (below_step (by repeat (first|(with_reducible first|exact HB.out|apply ba|apply bb|apply bc|refine below_set ?_ GE157.out)|exact HB.out)) hb);clear BK157;clear HB;have BK157:=n0_;have HB:=n1_;clear n0_ n1_;(try clear hb);(try clear hb2);(try clear hk);(try clear hi);have hcz29_0 : w28.cell? ⟨gb157,0,none⟩ = some (.int .i64 0):=(blk_cell BK157.out 0).trans rfl;have hcz29_1 : w28.cell? ⟨gb157,1,none⟩ = some (.int .i64 0):=(blk_cell BK157.out 1).trans rfl;have hfz29_0:=blk_frozen BK157.out 0;have hfz29_1:=blk_frozen BK157.out 1))
       refine bodyPost_ret (results_ct rfl _ _ gb157 36 #[.int .i64 t173,.int .i64 t174] (0,0) _ rfl (by (with_reducible repeat (first|refine blk_drewN ?_ _|refine blk_drew ?_|refine blk_alloc ?_ _));refine blk_put (cs:=#[.int .i64 t173,.int .i64 0]) ?_ 1 _ rfl;(with_reducible repeat (first|refine blk_drewN ?_ _|refine blk_drew ?_|refine blk_alloc ?_ _));refine blk_put (cs:=#[.int .i64 0,.int .i64 0]) ?_ 0 _ rfl;(with_reducible repeat (first|refine blk_drewN ?_ _|refine blk_drew ?_|refine blk_alloc ?_ _));exact BK157.out) Try.underlying36 rfl (by kernel_rfl)) rfl ?_
       exact ⟨by first|rfl|(simp [errW_none,errW_some] <;> rfl)|(simp [*,errW_none,errW_some] <;> rfl),by repeat (first|(with_reducible first|exact HB.out|apply ba|apply bb|apply bc|refine below_set ?_ GE157.out)|exact HB.out)⟩

/-! ### normal_Gap: function 40 -/
def normal_Gap.f (k : Nat) (l0 : List Int) (l1 : List Int) : Option (Int × Int × Int):=(euclid_Distance.f k l0 l1).bind fun bt177=>(if bt177.2 = 0 then ((normal_gap.f k l0 l1).bind fun bt179=>(some (bt179.1,bt179.2.1,bt179.2.2))) else (some (0,0,bt177.2)))
theorem normal_Gap.mono : ∀ a0 a1 k,LeO (normal_Gap.f k a0 a1) (normal_Gap.f (k + 1) a0 a1):=by
 intro a0 a1 k
 unfold normal_Gap.f
 repeat' first
   | (with_reducible exact euclid_Distance.mono _ _ _)
   | (with_reducible exact normal_gap.mono _ _ _)
   | (with_reducible exact LeO.refl _)
   | (with_reducible exact LeO.none _)
   | (with_reducible refine LeO.ite ?_ ?_)
   | (with_reducible refine LeO.bind ?_ (fun _=>?_))
   | exact euclid_Distance.mono _ _ _
   | exact normal_gap.mono _ _ _
   | exact LeO.none _
   | refine LeO.ite ?_ ?_
   | refine LeO.bind ?_ (fun _=>?_)
set_option maxHeartbeats 8000000 in
set_option maxRecDepth 100000 in
theorem normal_Gap.calls (k : Nat) (A0 : Option Addr) (c0 : Nat) (l0 : List Int) (A1 : Option Addr) (c1 : Nat) (l1 : List Int) (r1 : Int) (r2 : Int) (r3 : Int) (w : World) (hr0 : Kd.C (Kd.int .i64) w A0 l0.length l0) (hc0 : l0.length ≤ c0) (hr1 : Kd.C (Kd.int .i64) w A1 l1.length l1) (hc1 : l1.length ≤ c1) (h : normal_Gap.f k l0 l1 = some (r1,r2,r3)) :
  Calls Try.prog 40 #[.slice A0 l0.length c0,.slice A1 l1.length c1] w fun e w'=>e = .returned (.tuple #[.agg #[.int .i64 r1,.int .i64 r2],.int .i64 r3])∧Below w.heap.size w w':=by
 have hu36:=Try.underlying36
 have HR0:=A_ hr0
 have HC0:=A_ hc0
 clear hr0 hc0
 have HR1:=A_ hr1
 have HC1:=A_ hc1
 clear hr1 hc1
 have HB:=A_ (Below.refl w.heap.size w)
 have H : ((euclid_Distance.f k l0 l1).bind fun bt177=>(if bt177.2 = 0 then ((normal_gap.f k l0 l1).bind fun bt179=>(some (bt179.1,bt179.2.1,bt179.2.2))) else (some (0,0,bt177.2)))) = some (r1,r2,r3):=h
 clear h
 replace H:=Option.bind_eq_some_iff.mp H
 obtain ⟨⟨t177,t178⟩,A30,H⟩:=H
 replace H : (if t178 = 0 then ((normal_gap.f k l0 l1).bind fun bt179=>(some (bt179.1,bt179.2.1,bt179.2.2))) else (some (0,0,t178))) = some (r1,r2,r3):=H
 have A3:=A_ A30
 clear A30
 by_cases c4 : t178 = 0
 ·
  rw [if_pos c4] at H
  have c4b0 : (t178 == 0) = true:=beq_iff_eq.mpr c4
  have c4b1 : (t178 != 0) = false:=bne_eq_false_iff_eq.mpr c4
  clear c4
  replace H:=Option.bind_eq_some_iff.mp H
  obtain ⟨⟨t179,t180,t181⟩,A50,H⟩:=H
  replace H : (some (t179,t180,t181)) = some (r1,r2,r3):=H
  have A5:=A_ A50
  clear A50
  simp only [Option.some.injEq,Prod.mk.injEq] at H
  obtain ⟨rfl,rfl,rfl⟩:=H
  go_enter Try.func40,Try.ntmps40
  go_wp2_with (first|((with_reducible refine gate_dst (N:=4) rfl ?_);refine box_event ?hg (N:=4) ?hd (cs:=#[.int .i64 0,.int .i64 0]) (t:=36) ?hr ?_;(case hd=>rfl);(case hg=>rfl);(case hr=>first|(go_simp;done)|(go_simp;rfl));intro gb176 hg w6 hbox hb;have n0_:=A_ (below_step (by repeat (first|(with_reducible first|exact HB.out|apply ba|apply bb|apply bc)|exact HB.out)) hb);have n1_:=A_ (hbox);have n2_:=A_ ((by rw [hg];exact (below_size (by repeat (first|(with_reducible first|exact HB.out|apply ba|apply bb|apply bc)|exact HB.out))) : w.heap.size ≤ gb176));have n3_:=A_ ((by rw [hg];exact (below_size (by repeat (first|(with_reducible first|exact HB.out|apply ba|apply bb|apply bc)|exact HB.out))) : w.heap.size ≤ gb176));clear HB;have HB:=n0_;have BK176:=n1_;have GW176:=n2_;have GE176:=n3_;clear n0_ n1_ n2_ n3_;clear hb hbox hg)|((with_reducible refine gate_callee (f:=61) rfl ?_);refine goesL_ (some 11) rfl rfl Try.func61 (by kernel_rfl) rfl #[.slice A0 l0.length c0,.slice A1 l1.length c1] rfl (by (try simp only [List.map_toArray,List.map_cons,List.map_nil]);first|done|rfl|(simp only [List.length_drop,List.length_take];rfl)) ?_;(with_reducible refine (euclid_Distance.calls k _ _ l0 _ _ l1 t177 t178 _ ?side1 ?side2 ?side3 ?side4 A3.out).mono ?_);(case side1=>repeat (first|exact (cl HR0.out HB.out)|(with_reducible refine ca ?_ _)|(with_reducible refine cb ?_ _)|(with_reducible refine cc ?_)));(case side2=>exact HC0.out);(case side3=>repeat (first|exact (cl HR1.out HB.out)|(with_reducible refine ca ?_ _)|(with_reducible refine cb ?_ _)|(with_reducible refine cc ?_)));(case side4=>exact HC1.out);rintro e w' ⟨rfl,⟨nd,rfl⟩⟩;refine ⟨_,rfl,?_⟩;(try (rw [drewN_self w6];generalize hq_ : World.drewN w6 _ = w6;have n0_ : Aside0 (w6.heap[gb176]? = some (.cells #[.int .i64 0,.int .i64 0] 36 (0,0))):=⟨by rw [← hq_];exact (by (with_reducible repeat (first|refine blk_drewN ?_ _|refine blk_drew ?_|refine blk_alloc ?_ _));exact BK176.out)⟩;have n1_ : Aside0 (Below w.heap.size w w6):=⟨by rw [← hq_];exact (by repeat (first|(with_reducible first|exact HB.out|apply ba|apply bb|apply bc|refine below_set ?_ GE176.out)|exact HB.out))⟩;clear BK176 HB hq_;have BK176:=n0_;have HB:=n1_;clear n0_ n1_)))|((with_reducible refine gate_callee (f:=62) rfl ?_);refine goesL_ (some 20) rfl rfl Try.func62 (by kernel_rfl) rfl #[.slice A0 l0.length c0,.slice A1 l1.length c1] rfl (by (try simp only [List.map_toArray,List.map_cons,List.map_nil]);first|done|rfl|(simp only [List.length_drop,List.length_take];rfl)) ?_;(with_reducible refine (normal_gap.calls k _ _ l0 _ _ l1 t179 t180 t181 _ ?side1 ?side2 ?side3 ?side4 A5.out).mono ?_);(case side1=>repeat (first|exact (cl HR0.out HB.out)|(with_reducible refine ca ?_ _)|(with_reducible refine cb ?_ _)|(with_reducible refine cc ?_)));(case side2=>exact HC0.out);(case side3=>repeat (first|exact (cl HR1.out HB.out)|(with_reducible refine ca ?_ _)|(with_reducible refine cb ?_ _)|(with_reducible refine cc ?_)));(case side4=>exact HC1.out);rintro e w7 ⟨rfl,hb⟩;refine ⟨_,rfl,?_⟩;have n0_:=A_ (blk_below (g:=gb176) (o:=.cells #[.int .i64 0,.int .i64 0] 36 (0,0)) (by (with_reducible repeat (first|refine blk_drewN ?_ _|refine blk_drew ?_|refine blk_alloc ?_ _));exact BK176.out) hb);have n1_:=A_ (below_step (by repeat (first|(with_reducible first|exact HB.out|apply ba|apply bb|apply bc|refine below_set ?_ GE176.out)|exact HB.out)) hb);clear BK176;clear HB;have BK176:=n0_;have HB:=n1_;clear n0_ n1_;(try clear hb);(try clear hb2);(try clear hk);(try clear hi);have hcz8_0 : w7.cell? ⟨gb176,0,none⟩ = some (.int .i64 0):=(blk_cell BK176.out 0).trans rfl;have hcz8_1 : w7.cell? ⟨gb176,1,none⟩ = some (.int .i64 0):=(blk_cell BK176.out 1).trans rfl;have hfz8_0:=blk_frozen BK176.out 0;have hfz8_1:=blk_frozen BK176.out 1))
  refine bodyPost_ret (results_ct rfl _ _ gb176 36 #[.int .i64 t179,.int .i64 t180] (0,0) _ rfl (by (with_reducible repeat (first|refine blk_drewN ?_ _|refine blk_drew ?_|refine blk_alloc ?_ _));refine blk_put (cs:=#[.int .i64 t179,.int .i64 0]) ?_ 1 _ rfl;(with_reducible repeat (first|refine blk_drewN ?_ _|refine blk_drew ?_|refine blk_alloc ?_ _));refine blk_put (cs:=#[.int .i64 0,.int .i64 0]) ?_ 0 _ rfl;(with_reducible repeat (first|refine blk_drewN ?_ _|refine blk_drew ?_|refine blk_alloc ?_ _));exact BK176.out) Try.underlying36 rfl (by kernel_rfl)) rfl ?_
  exact ⟨by first|rfl|(simp [errW_none,errW_some] <;> rfl)|(simp [*,errW_none,errW_some] <;> rfl),by repeat (first|(with_reducible first|exact HB.out|apply ba|apply bb|apply bc|refine below_set ?_ GE176.out)|exact HB.out)⟩
 ·
  rw [if_neg c4] at H
  have c4b0 : (t178 == 0) = false:=beq_eq_false_iff_ne.mpr c4
  have c4b1 : (t178 != 0) = true:=bne_iff_ne.mpr c4
  simp only [Option.some.injEq,Prod.mk.injEq] at H
  obtain ⟨rfl,rfl,rfl⟩:=H
  go_enter Try.func40,Try.ntmps40
  go_wp2_with (first|((with_reducible refine gate_dst (N:=4) rfl ?_);refine box_event ?hg (N:=4) ?hd (cs:=#[.int .i64 0,.int .i64 0]) (t:=36) ?hr ?_;(case hd=>rfl);(case hg=>rfl);(case hr=>first|(go_simp;done)|(go_simp;rfl));intro gb176 hg w9 hbox hb;have n0_:=A_ (below_step (by repeat (first|(with_reducible first|exact HB.out|apply ba|apply bb|apply bc)|exact HB.out)) hb);have n1_:=A_ (hbox);have n2_:=A_ ((by rw [hg];exact (below_size (by repeat (first|(with_reducible first|exact HB.out|apply ba|apply bb|apply bc)|exact HB.out))) : w.heap.size ≤ gb176));have n3_:=A_ ((by rw [hg];exact (below_size (by repeat (first|(with_reducible first|exact HB.out|apply ba|apply bb|apply bc)|exact HB.out))) : w.heap.size ≤ gb176));clear HB;have HB:=n0_;have BK176:=n1_;have GW176:=n2_;have GE176:=n3_;clear n0_ n1_ n2_ n3_;clear hb hbox hg)|((with_reducible refine gate_callee (f:=61) rfl ?_);refine goesL_ (some 11) rfl rfl Try.func61 (by kernel_rfl) rfl #[.slice A0 l0.length c0,.slice A1 l1.length c1] rfl (by (try simp only [List.map_toArray,List.map_cons,List.map_nil]);first|done|rfl|(simp only [List.length_drop,List.length_take];rfl)) ?_;(with_reducible refine (euclid_Distance.calls k _ _ l0 _ _ l1 t177 t178 _ ?side1 ?side2 ?side3 ?side4 A3.out).mono ?_);(case side1=>repeat (first|exact (cl HR0.out HB.out)|(with_reducible refine ca ?_ _)|(with_reducible refine cb ?_ _)|(with_reducible refine cc ?_)));(case side2=>exact HC0.out);(case side3=>repeat (first|exact (cl HR1.out HB.out)|(with_reducible refine ca ?_ _)|(with_reducible refine cb ?_ _)|(with_reducible refine cc ?_)));(case side4=>exact HC1.out);rintro e w' ⟨rfl,⟨nd,rfl⟩⟩;refine ⟨_,rfl,?_⟩;(try (rw [drewN_self w9];generalize hq_ : World.drewN w9 _ = w9;have n0_ : Aside0 (w9.heap[gb176]? = some (.cells #[.int .i64 0,.int .i64 0] 36 (0,0))):=⟨by rw [← hq_];exact (by (with_reducible repeat (first|refine blk_drewN ?_ _|refine blk_drew ?_|refine blk_alloc ?_ _));exact BK176.out)⟩;have n1_ : Aside0 (Below w.heap.size w w9):=⟨by rw [← hq_];exact (by repeat (first|(with_reducible first|exact HB.out|apply ba|apply bb|apply bc|refine below_set ?_ GE176.out)|exact HB.out))⟩;clear BK176 HB hq_;have BK176:=n0_;have HB:=n1_;clear n0_ n1_));have hcz10_0 : w9.cell? ⟨gb176,0,none⟩ = some (.int .i64 0):=(blk_cell BK176.out 0).trans rfl;have hcz10_1 : w9.cell? ⟨gb176,1,none⟩ = some (.int .i64 0):=(blk_cell BK176.out 1).trans rfl;have hfz10_0:=blk_frozen BK176.out 0;have hfz10_1:=blk_frozen BK176.out 1))
  refine bodyPost_ret (results_ct rfl _ _ gb176 36 #[.int .i64 0,.int .i64 0] (0,0) _ rfl (by (with_reducible repeat (first|refine blk_drewN ?_ _|refine blk_drew ?_|refine blk_alloc ?_ _));refine blk_put (cs:=#[.int .i64 0,.int .i64 0]) ?_ 1 _ rfl;(with_reducible repeat (first|refine blk_drewN ?_ _|refine blk_drew ?_|refine blk_alloc ?_ _));refine blk_put (cs:=#[.int .i64 0,.int .i64 0]) ?_ 0 _ rfl;(with_reducible repeat (first|refine blk_drewN ?_ _|refine blk_drew ?_|refine blk_alloc ?_ _));exact BK176.out) Try.underlying36 rfl (by kernel_rfl)) rfl ?_
  exact ⟨by first|rfl|(simp [errW_none,errW_some] <;> rfl)|(simp [*,errW_none,errW_some] <;> rfl),by repeat (first|(with_reducible first|exact HB.out|apply ba|apply bb|apply bc|refine below_set ?_ GE176.out)|exact HB.out)⟩

/-! ### ratio_Valid: function 73 -/
def ratio_Valid.f (k : Nat) (a0_0 : Int) (a0_1 : Int) : Option (Bool):=(ratio_within.f a0_0 a0_1).bind fun t183=>(if t183 = true then ((ratio_divisor.f k a0_0 a0_1).bind fun t184=>(some (t184 == 1))) else (some false))
theorem ratio_Valid.mono : ∀ a0 a1 k,LeO (ratio_Valid.f k a0 a1) (ratio_Valid.f (k + 1) a0 a1):=by
 intro a0 a1 k
 unfold ratio_Valid.f
 repeat' first
   | (with_reducible exact ratio_divisor.mono _ _ _)
   | (with_reducible exact LeO.refl _)
   | (with_reducible exact LeO.none _)
   | (with_reducible refine LeO.ite ?_ ?_)
   | (with_reducible refine LeO.bind ?_ (fun _=>?_))
   | exact ratio_divisor.mono _ _ _
   | exact LeO.none _
   | refine LeO.ite ?_ ?_
   | refine LeO.bind ?_ (fun _=>?_)
set_option maxHeartbeats 8000000 in
set_option maxRecDepth 100000 in
theorem ratio_Valid.calls (k : Nat) (a0_0 : Int) (a0_1 : Int) (r : Bool) (w : World) (h : ratio_Valid.f k a0_0 a0_1 = some r) :
  Calls Try.prog 73 #[.agg #[.int .i64 a0_0,.int .i64 a0_1]] w fun e w'=>e = .returned (.bool r)∧Below w.heap.size w w':=by
 have hu36:=Try.underlying36
 have HB:=A_ (Below.refl w.heap.size w)
 have H : ((ratio_within.f a0_0 a0_1).bind fun t183=>(if t183 = true then ((ratio_divisor.f k a0_0 a0_1).bind fun t184=>(some (t184 == 1))) else (some false))) = some r:=h
 clear h
 replace H:=Option.bind_eq_some_iff.mp H
 obtain ⟨t183,A20,H⟩:=H
 replace H : (if t183 = true then ((ratio_divisor.f k a0_0 a0_1).bind fun t184=>(some (t184 == 1))) else (some false)) = some r:=H
 have A2:=A_ A20
 clear A20
 by_cases c3 : t183 = true
 ·
  subst c3
  have H1 : ((ratio_divisor.f k a0_0 a0_1).bind fun t184=>(some (t184 == 1))) = some r:=by rw [if_pos rfl] at H;exact H
  clear H
  have H:=H1
  clear H1
  replace H:=Option.bind_eq_some_iff.mp H
  obtain ⟨t184,A40,H⟩:=H
  replace H : (some (t184 == 1)) = some r:=H
  have A4:=A_ A40
  clear A40
  obtain rfl:=Option.some.inj H
  go_enter Try.func73,Try.ntmps73
  go_wp2_with (first|((with_reducible refine gate_dst (N:=1) rfl ?_);refine box_event ?hg (N:=1) ?hd (cs:=#[.int .i64 a0_0,.int .i64 a0_1]) (t:=36) ?hr ?_;(case hd=>rfl);(case hg=>rfl);(case hr=>first|(go_simp;done)|(go_simp;rfl));intro gb182 hg w5 hbox hb;have n0_:=A_ (below_step (by repeat (first|(with_reducible first|exact HB.out|apply ba|apply bb|apply bc)|exact HB.out)) hb);have n1_:=A_ (hbox);have n2_:=A_ ((by rw [hg];exact (below_size (by repeat (first|(with_reducible first|exact HB.out|apply ba|apply bb|apply bc)|exact HB.out))) : w.heap.size ≤ gb182));have n3_:=A_ ((by rw [hg];exact (below_size (by repeat (first|(with_reducible first|exact HB.out|apply ba|apply bb|apply bc)|exact HB.out))) : w.heap.size ≤ gb182));clear HB;have HB:=n0_;have BK182:=n1_;have GW182:=n2_;have GE182:=n3_;clear n0_ n1_ n2_ n3_;clear hb hbox hg;have hcz6_0 : w5.cell? ⟨gb182,0,none⟩ = some (.int .i64 a0_0):=(blk_cell BK182.out 0).trans rfl;have hcz6_1 : w5.cell? ⟨gb182,1,none⟩ = some (.int .i64 a0_1):=(blk_cell BK182.out 1).trans rfl;have hfz6_0:=blk_frozen BK182.out 0;have hfz6_1:=blk_frozen BK182.out 1)|((with_reducible refine gate_callee (f:=80) rfl ?_);refine goesL_ (some 4) rfl rfl Try.func80 (by kernel_rfl) rfl #[.agg #[.int .i64 a0_0,.int .i64 a0_1]] rfl (by (try simp only [List.map_toArray,List.map_cons,List.map_nil]);first|done|rfl|(simp only [List.length_drop,List.length_take];rfl)) ?_;(with_reducible refine (ratio_within.calls a0_0 a0_1 true _ A2.out).mono ?_);rintro e w7 ⟨rfl,hb⟩;refine ⟨_,rfl,?_⟩;have n0_:=A_ (blk_below (g:=gb182) (o:=.cells #[.int .i64 a0_0,.int .i64 a0_1] 36 (0,0)) (by (with_reducible repeat (first|refine blk_drewN ?_ _|refine blk_drew ?_|refine blk_alloc ?_ _));exact BK182.out) hb);have n1_:=A_ (below_step (by repeat (first|(with_reducible first|exact HB.out|apply ba|apply bb|apply bc|refine below_set ?_ GE182.out)|exact HB.out)) hb);clear BK182;clear HB;have BK182:=n0_;have HB:=n1_;clear n0_ n1_;(try clear hb);(try clear hb2);(try clear hk);(try clear hi);have hcz8_0 : w7.cell? ⟨gb182,0,none⟩ = some (.int .i64 a0_0):=(blk_cell BK182.out 0).trans rfl;have hcz8_1 : w7.cell? ⟨gb182,1,none⟩ = some (.int .i64 a0_1):=(blk_cell BK182.out 1).trans rfl;have hfz8_0:=blk_frozen BK182.out 0;have hfz8_1:=blk_frozen BK182.out 1)|(go_at_call 79;(with_reducible refine (ratio_divisor.calls k a0_0 a0_1 t184 _ A4.out).mono ?_);rintro e w' ⟨rfl,⟨nd,rfl⟩⟩))
  go_ret
  exact ⟨by first|rfl|(simp [errW_none,errW_some] <;> rfl)|(simp [*,errW_none,errW_some] <;> rfl),by repeat (first|(with_reducible first|exact HB.out|apply ba|apply bb|apply bc|refine below_set ?_ GE182.out)|exact HB.out)⟩
 ·
  replace c3:=Bool.eq_false_iff.mpr c3
  subst c3
  have H1 : (some false) = some r:=by rw [if_neg (show ¬ (false = true) by decide)] at H;exact H
  clear H
  have H:=H1
  clear H1
  obtain rfl:=Option.some.inj H
  go_enter Try.func73,Try.ntmps73
  go_wp2_with (first|((with_reducible refine gate_dst (N:=1) rfl ?_);refine box_event ?hg (N:=1) ?hd (cs:=#[.int .i64 a0_0,.int .i64 a0_1]) (t:=36) ?hr ?_;(case hd=>rfl);(case hg=>rfl);(case hr=>first|(go_simp;done)|(go_simp;rfl));intro gb182 hg w9 hbox hb;have n0_:=A_ (below_step (by repeat (first|(with_reducible first|exact HB.out|apply ba|apply bb|apply bc)|exact HB.out)) hb);have n1_:=A_ (hbox);have n2_:=A_ ((by rw [hg];exact (below_size (by repeat (first|(with_reducible first|exact HB.out|apply ba|apply bb|apply bc)|exact HB.out))) : w.heap.size ≤ gb182));have n3_:=A_ ((by rw [hg];exact (below_size (by repeat (first|(with_reducible first|exact HB.out|apply ba|apply bb|apply bc)|exact HB.out))) : w.heap.size ≤ gb182));clear HB;have HB:=n0_;have BK182:=n1_;have GW182:=n2_;have GE182:=n3_;clear n0_ n1_ n2_ n3_;clear hb hbox hg;have hcz10_0 : w9.cell? ⟨gb182,0,none⟩ = some (.int .i64 a0_0):=(blk_cell BK182.out 0).trans rfl;have hcz10_1 : w9.cell? ⟨gb182,1,none⟩ = some (.int .i64 a0_1):=(blk_cell BK182.out 1).trans rfl;have hfz10_0:=blk_frozen BK182.out 0;have hfz10_1:=blk_frozen BK182.out 1)|((with_reducible refine gate_callee (f:=80) rfl ?_);refine goesL_ (some 4) rfl rfl Try.func80 (by kernel_rfl) rfl #[.agg #[.int .i64 a0_0,.int .i64 a0_1]] rfl (by (try simp only [List.map_toArray,List.map_cons,List.map_nil]);first|done|rfl|(simp only [List.length_drop,List.length_take];rfl)) ?_;(with_reducible refine (ratio_within.calls a0_0 a0_1 false _ A2.out).mono ?_);rintro e w11 ⟨rfl,hb⟩;refine ⟨_,rfl,?_⟩;have n0_:=A_ (blk_below (g:=gb182) (o:=.cells #[.int .i64 a0_0,.int .i64 a0_1] 36 (0,0)) (by (with_reducible repeat (first|refine blk_drewN ?_ _|refine blk_drew ?_|refine blk_alloc ?_ _));exact BK182.out) hb);have n1_:=A_ (below_step (by repeat (first|(with_reducible first|exact HB.out|apply ba|apply bb|apply bc|refine below_set ?_ GE182.out)|exact HB.out)) hb);clear BK182;clear HB;have BK182:=n0_;have HB:=n1_;clear n0_ n1_;(try clear hb);(try clear hb2);(try clear hk);(try clear hi)))
  go_ret
  exact ⟨by first|rfl|(simp [errW_none,errW_some] <;> rfl)|(simp [*,errW_none,errW_some] <;> rfl),by repeat (first|(with_reducible first|exact HB.out|apply ba|apply bb|apply bc|refine below_set ?_ GE182.out)|exact HB.out)⟩

/-! ### bits_Mul64: function 74 -/
def bits_Mul64.f (a0 : Int) (a1 : Int) : Option (Int × Int):=some (IntKind.u64.wrap ((IntKind.u64.wrap ((IntKind.u64.wrap ((a0 / 4294967296) * (a1 / 4294967296))) + ((IntKind.u64.wrap ((IntKind.u64.wrap ((a0 / 4294967296) * (Go.bits .and .u64 a1 4294967295))) + ((IntKind.u64.wrap ((Go.bits .and .u64 a0 4294967295) * (Go.bits .and .u64 a1 4294967295))) / 4294967296))) / 4294967296))) + ((IntKind.u64.wrap ((Go.bits .and .u64 (IntKind.u64.wrap ((IntKind.u64.wrap ((a0 / 4294967296) * (Go.bits .and .u64 a1 4294967295))) + ((IntKind.u64.wrap ((Go.bits .and .u64 a0 4294967295) * (Go.bits .and .u64 a1 4294967295))) / 4294967296))) 4294967295) + (IntKind.u64.wrap ((Go.bits .and .u64 a0 4294967295) * (a1 / 4294967296))))) / 4294967296)),IntKind.u64.wrap (a0 * a1))
set_option maxHeartbeats 8000000 in
set_option maxRecDepth 100000 in
theorem bits_Mul64.calls (a0 : Int) (a1 : Int) (r1 : Int) (r2 : Int) (w : World) (h : bits_Mul64.f a0 a1 = some (r1,r2)) :
  Calls Try.prog 74 #[.int .u64 a0,.int .u64 a1] w fun e w'=>e = .returned (.tuple #[.int .u64 r1,.int .u64 r2])∧Drawn0 w w':=by
 have H : (some (IntKind.u64.wrap ((IntKind.u64.wrap ((IntKind.u64.wrap ((a0 / 4294967296) * (a1 / 4294967296))) + ((IntKind.u64.wrap ((IntKind.u64.wrap ((a0 / 4294967296) * (Go.bits .and .u64 a1 4294967295))) + ((IntKind.u64.wrap ((Go.bits .and .u64 a0 4294967295) * (Go.bits .and .u64 a1 4294967295))) / 4294967296))) / 4294967296))) + ((IntKind.u64.wrap ((Go.bits .and .u64 (IntKind.u64.wrap ((IntKind.u64.wrap ((a0 / 4294967296) * (Go.bits .and .u64 a1 4294967295))) + ((IntKind.u64.wrap ((Go.bits .and .u64 a0 4294967295) * (Go.bits .and .u64 a1 4294967295))) / 4294967296))) 4294967295) + (IntKind.u64.wrap ((Go.bits .and .u64 a0 4294967295) * (a1 / 4294967296))))) / 4294967296)),IntKind.u64.wrap (a0 * a1))) = some (r1,r2):=h
 clear h
 simp only [Option.some.injEq,Prod.mk.injEq] at H
 obtain ⟨rfl,rfl⟩:=H
 go_enter Try.func74,Try.ntmps74
 go_wp2
 go_ret2
 exact ⟨by first|rfl|(simp;done)|(simp [*];done),by repeat (first|exact Drawn0.refl _|apply Drawn0.step)⟩

/-! ### ratio_Cmp: function 63 -/
mutual
def ratio_Cmp.j0 : Nat → Bool → Int → Int → Int → Int → Option (Int)
 | 0,_,_,_,_,_=>none
 | k + 1,x16,x186000,x186001,x187000,x187001=>if x16 = true then (some 0) else ((bits_Mul64.f (IntKind.u64.wrap (x186000)) (IntKind.u64.wrap (x187001))).bind fun bt189=>((bits_Mul64.f (IntKind.u64.wrap (x187000)) (IntKind.u64.wrap (x186001))).bind fun bt191=>(if bt189.1 < bt191.1 then (ratio_Cmp.j1 k bt189.1 bt189.2 bt191.1 bt191.2 true) else (if bt189.1 = bt191.1 then (ratio_Cmp.j1 k bt189.1 bt189.2 bt191.1 bt191.2 (decide (bt189.2 < bt191.2))) else (ratio_Cmp.j1 k bt189.1 bt189.2 bt191.1 bt191.2 false)))))
def ratio_Cmp.j1 : Nat → Int → Int → Int → Int → Bool → Option (Int)
 | 0,_,_,_,_,_=>none
 | k + 1,x5,x6,x7,x8,x37=>if x37 = true then (some (-1)) else (if x5 = x7 then (if x6 = x8 then (some 0) else (some 1)) else (some 1))
end
def ratio_Cmp.f (k : Nat) (a0_0 : Int) (a0_1 : Int) (a1_0 : Int) (a1_1 : Int) : Option (Int):=(ratio_Valid.f k a0_0 a0_1).bind fun t187=>(if t187 = true then ((ratio_Valid.f k a1_0 a1_1).bind fun t188=>(ratio_Cmp.j0 k (!t188) a0_0 a0_1 a1_0 a1_1)) else (ratio_Cmp.j0 k true a0_0 a0_1 a1_0 a1_1))
theorem ratio_Cmp.mono_l : ∀ k,(∀ y0 y1 y2 y3 y4,LeO (ratio_Cmp.j0 k y0 y1 y2 y3 y4) (ratio_Cmp.j0 (k + 1) y0 y1 y2 y3 y4))∧(∀ y0 y1 y2 y3 y4,LeO (ratio_Cmp.j1 k y0 y1 y2 y3 y4) (ratio_Cmp.j1 (k + 1) y0 y1 y2 y3 y4))
 | 0=>⟨fun _ _ _ _ _ r h=>by simp [ratio_Cmp.j0] at h,fun _ _ _ _ _ r h=>by simp [ratio_Cmp.j1] at h⟩
 | k + 1=>by
  obtain ⟨ih0,ih1⟩:=ratio_Cmp.mono_l k
  refine ⟨?_,?_⟩
  ·
   intro y0 y1 y2 y3 y4
   unfold ratio_Cmp.j0
   repeat' first
   | (with_reducible exact ih0 _ _ _ _ _)
   | (with_reducible exact ih1 _ _ _ _ _)
   | (with_reducible exact ratio_Valid.mono _ _ _)
   | (with_reducible exact LeO.refl _)
   | (with_reducible exact LeO.none _)
   | (with_reducible refine LeO.ite ?_ ?_)
   | (with_reducible refine LeO.bind ?_ (fun _=>?_))
   | exact ih0 _ _ _ _ _
   | exact ih1 _ _ _ _ _
   | exact ratio_Valid.mono _ _ _
   | exact LeO.none _
   | refine LeO.ite ?_ ?_
   | refine LeO.bind ?_ (fun _=>?_)
  ·
   intro y0 y1 y2 y3 y4
   unfold ratio_Cmp.j1
   repeat' first
   | (with_reducible exact ih0 _ _ _ _ _)
   | (with_reducible exact ih1 _ _ _ _ _)
   | (with_reducible exact ratio_Valid.mono _ _ _)
   | (with_reducible exact LeO.refl _)
   | (with_reducible exact LeO.none _)
   | (with_reducible refine LeO.ite ?_ ?_)
   | (with_reducible refine LeO.bind ?_ (fun _=>?_))
   | exact ih0 _ _ _ _ _
   | exact ih1 _ _ _ _ _
   | exact ratio_Valid.mono _ _ _
   | exact LeO.none _
   | refine LeO.ite ?_ ?_
   | refine LeO.bind ?_ (fun _=>?_)
theorem ratio_Cmp.mono : ∀ a0 a1 a2 a3 k,LeO (ratio_Cmp.f k a0 a1 a2 a3) (ratio_Cmp.f (k + 1) a0 a1 a2 a3):=by
 intro a0 a1 a2 a3 k
 obtain ⟨ih0,ih1⟩:=ratio_Cmp.mono_l k
 unfold ratio_Cmp.f
 repeat' first
   | (with_reducible exact ih0 _ _ _ _ _)
   | (with_reducible exact ih1 _ _ _ _ _)
   | (with_reducible exact ratio_Valid.mono _ _ _)
   | (with_reducible exact LeO.refl _)
   | (with_reducible exact LeO.none _)
   | (with_reducible refine LeO.ite ?_ ?_)
   | (with_reducible refine LeO.bind ?_ (fun _=>?_))
   | exact ih0 _ _ _ _ _
   | exact ih1 _ _ _ _ _
   | exact ratio_Valid.mono _ _ _
   | exact LeO.none _
   | refine LeO.ite ?_ ?_
   | refine LeO.bind ?_ (fun _=>?_)
set_option maxHeartbeats 8000000 in
set_option maxRecDepth 100000 in
theorem ratio_Cmp.calls (k : Nat) (a0_0 : Int) (a0_1 : Int) (a1_0 : Int) (a1_1 : Int) (r : Int) (w : World) (h : ratio_Cmp.f k a0_0 a0_1 a1_0 a1_1 = some r) :
  Calls Try.prog 63 #[.agg #[.int .i64 a0_0,.int .i64 a0_1],.agg #[.int .i64 a1_0,.int .i64 a1_1]] w fun e w'=>e = .returned (.int .i64 r)∧Below w.heap.size w w':=by
 have hu36:=Try.underlying36
 have HB:=A_ (Below.refl w.heap.size w)
 have H : ((ratio_Valid.f k a0_0 a0_1).bind fun t187=>(if t187 = true then ((ratio_Valid.f k a1_0 a1_1).bind fun t188=>(ratio_Cmp.j0 k (!t188) a0_0 a0_1 a1_0 a1_1)) else (ratio_Cmp.j0 k true a0_0 a0_1 a1_0 a1_1))) = some r:=h
 clear h
 have HC3:=A_ H
 clear H
 go_enter Try.func63,Try.ntmps63
 go_upto_region 1 with (first|((with_reducible refine gate_dst (N:=2) rfl ?_);refine box_event ?hg (N:=2) ?hd (cs:=#[.int .i64 a0_0,.int .i64 a0_1]) (t:=36) ?hr ?_;(case hd=>rfl);(case hg=>rfl);(case hr=>first|(go_simp;done)|(go_simp;rfl));intro gb185 hg w4 hbox hb;have n0_:=A_ (below_step (by repeat (first|(with_reducible first|exact HB.out|apply ba|apply bb|apply bc)|exact HB.out)) hb);have n1_:=A_ (hbox);have n2_:=A_ ((by rw [hg];exact (below_size (by repeat (first|(with_reducible first|exact HB.out|apply ba|apply bb|apply bc)|exact HB.out))) : w.heap.size ≤ gb185));have n3_:=A_ ((by rw [hg];exact (below_size (by repeat (first|(with_reducible first|exact HB.out|apply ba|apply bb|apply bc)|exact HB.out))) : w.heap.size ≤ gb185));clear HB;have HB:=n0_;have BK185:=n1_;have GW185:=n2_;have GE185:=n3_;clear n0_ n1_ n2_ n3_;clear hb hbox hg)|((with_reducible refine gate_dst (N:=3) rfl ?_);refine box_event ?hg (N:=3) ?hd (cs:=#[.int .i64 a1_0,.int .i64 a1_1]) (t:=36) ?hr ?_;(case hd=>rfl);(case hg=>rfl);(case hr=>first|(go_simp;done)|(go_simp;rfl));intro gb186 hg w5 hbox hb;have n0_:=A_ (blk_below (g:=gb185) (o:=.cells #[.int .i64 a0_0,.int .i64 a0_1] 36 (0,0)) (by (with_reducible repeat (first|refine blk_drewN ?_ _|refine blk_drew ?_|refine blk_alloc ?_ _));exact BK185.out) hb);have n1_:=A_ (below_step (by repeat (first|(with_reducible first|exact HB.out|apply ba|apply bb|apply bc|refine below_set ?_ GE185.out)|exact HB.out)) hb);have n2_:=A_ (hbox);have n3_:=A_ ((by rw [hg];exact (below_size (by repeat (first|(with_reducible first|exact HB.out|apply ba|apply bb|apply bc|refine below_set ?_ GE185.out)|exact HB.out))) : w.heap.size ≤ gb186));have n4_:=A_ ((by rw [hg];exact (below_size (by repeat (first|(with_reducible first|exact HB.out|apply ba|apply bb|apply bc|refine below_set ?_ GE185.out)|exact HB.out))) : w.heap.size ≤ gb186));have n5_:=A_ ((by rw [hg];exact Nat.ne_of_lt (blk_lt (g:=gb185) (o:=.cells #[.int .i64 a0_0,.int .i64 a0_1] 36 (0,0)) (by (with_reducible repeat (first|refine blk_drewN ?_ _|refine blk_drew ?_|refine blk_alloc ?_ _));exact BK185.out)) : gb185≠gb186));have n6_:=A_ ((by rw [hg];exact Nat.ne_of_gt (blk_lt (g:=gb185) (o:=.cells #[.int .i64 a0_0,.int .i64 a0_1] 36 (0,0)) (by (with_reducible repeat (first|refine blk_drewN ?_ _|refine blk_drew ?_|refine blk_alloc ?_ _));exact BK185.out)) : gb186≠gb185));clear BK185;clear HB;have BK185:=n0_;have HB:=n1_;have BK186:=n2_;have GW186:=n3_;have GE186:=n4_;have NB185_186:=n5_;have NB186_185:=n6_;clear n0_ n1_ n2_ n3_ n4_ n5_ n6_;clear hb hbox hg))
 (try simp only [Act.put,List.setIfInBounds_toArray,List.set_cons_zero,List.set_cons_succ])
 go_cut [16] (fun v16 wc=>∃ (kq : Nat) (x16_2 : Bool),v16 = .bool x16_2∧Aside0 (ratio_Cmp.j0 kq x16_2 a0_0 a0_1 a1_0 a1_1 = some r)∧Aside0 (kq ≤ k)∧Aside0 (wc.heap[gb185]? = some (.cells #[.int .i64 a0_0,.int .i64 a0_1] 36 (0,0)))∧Aside0 (wc.heap[gb186]? = some (.cells #[.int .i64 a1_0,.int .i64 a1_1] 36 (0,0)))∧Aside0 (Below w.heap.size w wc))
 case first =>
  have H:=HC3.out
  clear HC3
  replace H:=Option.bind_eq_some_iff.mp H
  obtain ⟨t187,A60,H⟩:=H
  replace H : (if t187 = true then ((ratio_Valid.f k a1_0 a1_1).bind fun t188=>(ratio_Cmp.j0 k (!t188) a0_0 a0_1 a1_0 a1_1)) else (ratio_Cmp.j0 k true a0_0 a0_1 a1_0 a1_1)) = some r:=H
  have A6:=A_ A60
  clear A60
  by_cases c7 : t187 = true
  ·
   subst c7
   have H1 : ((ratio_Valid.f k a1_0 a1_1).bind fun t188=>(ratio_Cmp.j0 k (!t188) a0_0 a0_1 a1_0 a1_1)) = some r:=by rw [if_pos rfl] at H;exact H
   clear H
   have H:=H1
   clear H1
   replace H:=Option.bind_eq_some_iff.mp H
   obtain ⟨t188,A80,H⟩:=H
   replace H : (ratio_Cmp.j0 k (!t188) a0_0 a0_1 a1_0 a1_1) = some r:=H
   have A8:=A_ A80
   clear A80
   have H':=A_ H
   clear H
   have hnb9:=NB185_186.out
   have hnc9:=NB186_185.out
   have hcz10_0 : w5.cell? ⟨gb185,0,none⟩ = some (.int .i64 a0_0):=(blk_cell BK185.out 0).trans rfl
   have hcz10_1 : w5.cell? ⟨gb185,1,none⟩ = some (.int .i64 a0_1):=(blk_cell BK185.out 1).trans rfl
   have hfz10_0:=blk_frozen BK185.out 0
   have hfz10_1:=blk_frozen BK185.out 1
   go_wp2_with (first|((with_reducible refine gate_callee (f:=73) rfl ?_);refine goesL_ (some 10) rfl rfl Try.func73 (by kernel_rfl) rfl #[.agg #[.int .i64 a0_0,.int .i64 a0_1]] rfl (by (try simp only [List.map_toArray,List.map_cons,List.map_nil]);first|done|rfl|(simp only [List.length_drop,List.length_take];rfl)) ?_;(with_reducible refine (ratio_Valid.calls k a0_0 a0_1 true _ A6.out).mono ?_);rintro e w11 ⟨rfl,hb⟩;refine ⟨_,rfl,?_⟩;have n0_:=A_ (blk_below (g:=gb185) (o:=.cells #[.int .i64 a0_0,.int .i64 a0_1] 36 (0,0)) (by (with_reducible repeat (first|refine blk_drewN ?_ _|refine blk_drew ?_|refine blk_alloc ?_ _));exact BK185.out) hb);have n1_:=A_ (blk_below (g:=gb186) (o:=.cells #[.int .i64 a1_0,.int .i64 a1_1] 36 (0,0)) (by (with_reducible repeat (first|refine blk_drewN ?_ _|refine blk_drew ?_|refine blk_alloc ?_ _));exact BK186.out) hb);have n2_:=A_ (below_step (by repeat (first|(with_reducible first|exact HB.out|apply ba|apply bb|apply bc|refine below_set ?_ GE185.out|refine below_set ?_ GE186.out)|exact HB.out)) hb);clear BK185;clear BK186;clear HB;have BK185:=n0_;have BK186:=n1_;have HB:=n2_;clear n0_ n1_ n2_;(try clear hb);(try clear hb2);(try clear hk);(try clear hi);have hcz12_0 : w11.cell? ⟨gb186,0,none⟩ = some (.int .i64 a1_0):=(blk_cell BK186.out 0).trans rfl;have hcz12_1 : w11.cell? ⟨gb186,1,none⟩ = some (.int .i64 a1_1):=(blk_cell BK186.out 1).trans rfl;have hfz12_0:=blk_frozen BK186.out 0;have hfz12_1:=blk_frozen BK186.out 1)|(go_at_call 73;(with_reducible refine (ratio_Valid.calls k a1_0 a1_1 t188 _ A8.out).mono ?_);rintro e w13 ⟨rfl,hb⟩;have n0_:=A_ (blk_below (g:=gb185) (o:=.cells #[.int .i64 a0_0,.int .i64 a0_1] 36 (0,0)) (by (with_reducible repeat (first|refine blk_drewN ?_ _|refine blk_drew ?_|refine blk_alloc ?_ _));exact BK185.out) hb);have n1_:=A_ (blk_below (g:=gb186) (o:=.cells #[.int .i64 a1_0,.int .i64 a1_1] 36 (0,0)) (by (with_reducible repeat (first|refine blk_drewN ?_ _|refine blk_drew ?_|refine blk_alloc ?_ _));exact BK186.out) hb);have n2_:=A_ (below_step (by repeat (first|(with_reducible first|exact HB.out|apply ba|apply bb|apply bc|refine below_set ?_ GE185.out|refine below_set ?_ GE186.out)|exact HB.out)) hb);clear BK185;clear BK186;clear HB;have BK185:=n0_;have BK186:=n1_;have HB:=n2_;clear n0_ n1_ n2_;(try clear hb);(try clear hb2);(try clear hk);(try clear hi)))
   go_meet
   case rel=>exact ⟨_,(!t188),(by first|rfl|(simp;done)|(simp [*];done)),H',⟨by first|omega|exact Nat.le_refl _⟩,⟨by (with_reducible repeat (first|refine blk_drewN ?_ _|refine blk_drew ?_|refine blk_alloc ?_ _));exact BK185.out⟩,⟨by (with_reducible repeat (first|refine blk_drewN ?_ _|refine blk_drew ?_|refine blk_alloc ?_ _));exact BK186.out⟩,⟨by repeat (first|(with_reducible first|exact HB.out|apply ba|apply bb|apply bc|refine below_set ?_ GE185.out|refine below_set ?_ GE186.out)|exact HB.out)⟩⟩
  ·
   replace c7:=Bool.eq_false_iff.mpr c7
   subst c7
   have H1 : (ratio_Cmp.j0 k true a0_0 a0_1 a1_0 a1_1) = some r:=by rw [if_neg (show ¬ (false = true) by decide)] at H;exact H
   clear H
   have H:=H1
   clear H1
   have H':=A_ H
   clear H
   have hnb14:=NB185_186.out
   have hnc14:=NB186_185.out
   have hcz15_0 : w5.cell? ⟨gb185,0,none⟩ = some (.int .i64 a0_0):=(blk_cell BK185.out 0).trans rfl
   have hcz15_1 : w5.cell? ⟨gb185,1,none⟩ = some (.int .i64 a0_1):=(blk_cell BK185.out 1).trans rfl
   have hfz15_0:=blk_frozen BK185.out 0
   have hfz15_1:=blk_frozen BK185.out 1
   go_wp2_with (first|((with_reducible refine gate_callee (f:=73) rfl ?_);refine goesL_ (some 10) rfl rfl Try.func73 (by kernel_rfl) rfl #[.agg #[.int .i64 a0_0,.int .i64 a0_1]] rfl (by (try simp only [List.map_toArray,List.map_cons,List.map_nil]);first|done|rfl|(simp only [List.length_drop,List.length_take];rfl)) ?_;(with_reducible refine (ratio_Valid.calls k a0_0 a0_1 false _ A6.out).mono ?_);rintro e w16 ⟨rfl,hb⟩;refine ⟨_,rfl,?_⟩;have n0_:=A_ (blk_below (g:=gb185) (o:=.cells #[.int .i64 a0_0,.int .i64 a0_1] 36 (0,0)) (by (with_reducible repeat (first|refine blk_drewN ?_ _|refine blk_drew ?_|refine blk_alloc ?_ _));exact BK185.out) hb);have n1_:=A_ (blk_below (g:=gb186) (o:=.cells #[.int .i64 a1_0,.int .i64 a1_1] 36 (0,0)) (by (with_reducible repeat (first|refine blk_drewN ?_ _|refine blk_drew ?_|refine blk_alloc ?_ _));exact BK186.out) hb);have n2_:=A_ (below_step (by repeat (first|(with_reducible first|exact HB.out|apply ba|apply bb|apply bc|refine below_set ?_ GE185.out|refine below_set ?_ GE186.out)|exact HB.out)) hb);clear BK185;clear BK186;clear HB;have BK185:=n0_;have BK186:=n1_;have HB:=n2_;clear n0_ n1_ n2_;(try clear hb);(try clear hb2);(try clear hk);(try clear hi)))
   go_meet
   case rel=>exact ⟨_,(true),(by first|rfl|(simp;done)|(simp [*];done)),H',⟨by first|omega|exact Nat.le_refl _⟩,⟨by (with_reducible repeat (first|refine blk_drewN ?_ _|refine blk_drew ?_|refine blk_alloc ?_ _));exact BK185.out⟩,⟨by (with_reducible repeat (first|refine blk_drewN ?_ _|refine blk_drew ?_|refine blk_alloc ?_ _));exact BK186.out⟩,⟨by repeat (first|(with_reducible first|exact HB.out|apply ba|apply bb|apply bc|refine below_set ?_ GE185.out|refine below_set ?_ GE186.out)|exact HB.out)⟩⟩
 case rest =>
  clear HC3
  try clear c1
  try clear p2
  try clear c6
  try clear c7
  try clear c9
  try clear c14
  try clear hcz10_0
  try clear hcz10_1
  try clear hcz12_0
  try clear hcz12_1
  try clear hcz15_0
  try clear hcz15_1
  try clear hfz10_0
  try clear hfz10_1
  try clear hfz12_0
  try clear hfz12_1
  try clear hfz15_0
  try clear hfz15_1
  obtain ⟨kq,x16_2,rfl,HA,HJ2,BK185,BK186,HB⟩:=hcut
  cases kq with
  | zero=>exact absurd HA.out (by simp [ratio_Cmp.j0])
  | succ kj2 =>
   have H:=HA.out
   clear HA
   simp only [ratio_Cmp.j0] at H
   by_cases c17 : x16_2 = true
   ·
    subst c17
    have H1 : (some 0) = some r:=by rw [if_pos rfl] at H;exact H
    clear H
    have H:=H1
    clear H1
    obtain rfl:=Option.some.inj H
    go_wp2
    go_ret
    exact ⟨by first|rfl|(simp [errW_none,errW_some] <;> rfl)|(simp [*,errW_none,errW_some] <;> rfl),by repeat (first|(with_reducible first|exact HB.out|apply ba|apply bb|apply bc|refine below_set ?_ GE185.out|refine below_set ?_ GE186.out)|exact HB.out)⟩
   ·
    replace c17:=Bool.eq_false_iff.mpr c17
    subst c17
    have H1 : ((bits_Mul64.f (IntKind.u64.wrap (a0_0)) (IntKind.u64.wrap (a1_1))).bind fun bt189=>((bits_Mul64.f (IntKind.u64.wrap (a1_0)) (IntKind.u64.wrap (a0_1))).bind fun bt191=>(if bt189.1 < bt191.1 then (ratio_Cmp.j1 kj2 bt189.1 bt189.2 bt191.1 bt191.2 true) else (if bt189.1 = bt191.1 then (ratio_Cmp.j1 kj2 bt189.1 bt189.2 bt191.1 bt191.2 (decide (bt189.2 < bt191.2))) else (ratio_Cmp.j1 kj2 bt189.1 bt189.2 bt191.1 bt191.2 false))))) = some r:=by rw [if_neg (show ¬ (false = true) by decide)] at H;exact H
    clear H
    have H:=H1
    clear H1
    replace H:=Option.bind_eq_some_iff.mp H
    obtain ⟨⟨t189,t190⟩,A180,H⟩:=H
    replace H : ((bits_Mul64.f (IntKind.u64.wrap (a1_0)) (IntKind.u64.wrap (a0_1))).bind fun bt191=>(if t189 < bt191.1 then (ratio_Cmp.j1 kj2 t189 t190 bt191.1 bt191.2 true) else (if t189 = bt191.1 then (ratio_Cmp.j1 kj2 t189 t190 bt191.1 bt191.2 (decide (t190 < bt191.2))) else (ratio_Cmp.j1 kj2 t189 t190 bt191.1 bt191.2 false)))) = some r:=H
    have A18:=A_ A180
    clear A180
    replace H:=Option.bind_eq_some_iff.mp H
    obtain ⟨⟨t191,t192⟩,A190,H⟩:=H
    replace H : (if t189 < t191 then (ratio_Cmp.j1 kj2 t189 t190 t191 t192 true) else (if t189 = t191 then (ratio_Cmp.j1 kj2 t189 t190 t191 t192 (decide (t190 < t192))) else (ratio_Cmp.j1 kj2 t189 t190 t191 t192 false))) = some r:=H
    have A19:=A_ A190
    clear A190
    have HC20:=A_ H
    clear H
    have hnb21:=NB185_186.out
    have hnc21:=NB186_185.out
    have hcz22_0 : wc.cell? ⟨gb185,0,none⟩ = some (.int .i64 a0_0):=(blk_cell BK185.out 0).trans rfl
    have hcz22_1 : wc.cell? ⟨gb185,1,none⟩ = some (.int .i64 a0_1):=(blk_cell BK185.out 1).trans rfl
    have hfz22_0:=blk_frozen BK185.out 0
    have hfz22_1:=blk_frozen BK185.out 1
    have hcz23_0 : wc.cell? ⟨gb186,0,none⟩ = some (.int .i64 a1_0):=(blk_cell BK186.out 0).trans rfl
    have hcz23_1 : wc.cell? ⟨gb186,1,none⟩ = some (.int .i64 a1_1):=(blk_cell BK186.out 1).trans rfl
    have hfz23_0:=blk_frozen BK186.out 0
    have hfz23_1:=blk_frozen BK186.out 1
    go_upto_region 5 with (first|((with_reducible refine gate_callee (f:=74) rfl ?_);refine goesL_ (some 24) rfl rfl Try.func74 (by kernel_rfl) rfl #[.int .u64 (IntKind.u64.wrap (a0_0)),.int .u64 (IntKind.u64.wrap (a1_1))] rfl (by (try simp only [List.map_toArray,List.map_cons,List.map_nil]);first|done|rfl|(simp only [List.length_drop,List.length_take];rfl)) ?_;(with_reducible refine (bits_Mul64.calls (IntKind.u64.wrap (a0_0)) (IntKind.u64.wrap (a1_1)) t189 t190 _ A18.out).mono ?_);rintro e w' ⟨rfl,⟨nd,rfl⟩⟩;refine ⟨_,rfl,?_⟩)|((with_reducible refine gate_callee (f:=74) rfl ?_);refine goesL_ (some 34) rfl rfl Try.func74 (by kernel_rfl) rfl #[.int .u64 (IntKind.u64.wrap (a1_0)),.int .u64 (IntKind.u64.wrap (a0_1))] rfl (by (try simp only [List.map_toArray,List.map_cons,List.map_nil]);first|done|rfl|(simp only [List.length_drop,List.length_take];rfl)) ?_;(with_reducible refine (bits_Mul64.calls (IntKind.u64.wrap (a1_0)) (IntKind.u64.wrap (a0_1)) t191 t192 _ A19.out).mono ?_);rintro e w' ⟨rfl,⟨nd,rfl⟩⟩;refine ⟨_,rfl,?_⟩))
    (try simp only [Act.put,List.setIfInBounds_toArray,List.set_cons_zero,List.set_cons_succ])
    go_cut [37] (fun v37 wc=>∃ (kq : Nat) (x37_19 : Bool),v37 = .bool x37_19∧Aside0 (ratio_Cmp.j1 kq t189 t190 t191 t192 x37_19 = some r)∧Aside0 (kq ≤ kj2)∧Aside0 (wc.heap[gb185]? = some (.cells #[.int .i64 a0_0,.int .i64 a0_1] 36 (0,0)))∧Aside0 (wc.heap[gb186]? = some (.cells #[.int .i64 a1_0,.int .i64 a1_1] 36 (0,0)))∧Aside0 (Below w.heap.size w wc))
    case first =>
     have H:=HC20.out
     clear HC20
     by_cases c24 : t189 < t191
     ·
      rw [if_pos c24] at H
      have c24b0 : decide (t189 < t191) = true:=decide_eq_true c24
      clear c24
      (first|rw [c24b0]|(simp only [i64_w,i32_w];rw [c24b0])|skip)
      have H':=A_ H
      clear H
      go_wp2
      go_meet
      case rel=>exact ⟨_,(true),(by first|rfl|(simp;done)|(simp [*];done)),H',⟨by have:=HJ2.out;first|omega|exact Nat.le_refl _⟩,⟨by (with_reducible repeat (first|refine blk_drewN ?_ _|refine blk_drew ?_|refine blk_alloc ?_ _));exact BK185.out⟩,⟨by (with_reducible repeat (first|refine blk_drewN ?_ _|refine blk_drew ?_|refine blk_alloc ?_ _));exact BK186.out⟩,⟨by repeat (first|(with_reducible first|exact HB.out|apply ba|apply bb|apply bc|refine below_set ?_ GE185.out|refine below_set ?_ GE186.out)|exact HB.out)⟩⟩
     ·
      rw [if_neg c24] at H
      have c24b0 : decide (t189 < t191) = false:=decide_eq_false c24
      clear c24
      (first|rw [c24b0]|(simp only [i64_w,i32_w];rw [c24b0])|skip)
      by_cases c25 : t189 = t191
      ·
       rw [if_pos c25] at H
       have c25b0 : (t189 == t191) = true:=beq_iff_eq.mpr c25
       have c25b1 : (t189 != t191) = false:=bne_eq_false_iff_eq.mpr c25
       clear c25
       have H':=A_ H
       clear H
       go_wp2
       go_meet
       case rel=>exact ⟨_,(decide (t190 < t192)),(by first|rfl|(simp;done)|(simp [*];done)),H',⟨by have:=HJ2.out;first|omega|exact Nat.le_refl _⟩,⟨by (with_reducible repeat (first|refine blk_drewN ?_ _|refine blk_drew ?_|refine blk_alloc ?_ _));exact BK185.out⟩,⟨by (with_reducible repeat (first|refine blk_drewN ?_ _|refine blk_drew ?_|refine blk_alloc ?_ _));exact BK186.out⟩,⟨by repeat (first|(with_reducible first|exact HB.out|apply ba|apply bb|apply bc|refine below_set ?_ GE185.out|refine below_set ?_ GE186.out)|exact HB.out)⟩⟩
      ·
       rw [if_neg c25] at H
       have c25b0 : (t189 == t191) = false:=beq_eq_false_iff_ne.mpr c25
       have c25b1 : (t189 != t191) = true:=bne_iff_ne.mpr c25
       have H':=A_ H
       clear H
       go_wp2
       go_meet
       case rel=>exact ⟨_,(false),(by first|rfl|(simp;done)|(simp [*];done)),H',⟨by have:=HJ2.out;first|omega|exact Nat.le_refl _⟩,⟨by (with_reducible repeat (first|refine blk_drewN ?_ _|refine blk_drew ?_|refine blk_alloc ?_ _));exact BK185.out⟩,⟨by (with_reducible repeat (first|refine blk_drewN ?_ _|refine blk_drew ?_|refine blk_alloc ?_ _));exact BK186.out⟩,⟨by repeat (first|(with_reducible first|exact HB.out|apply ba|apply bb|apply bc|refine below_set ?_ GE185.out|refine below_set ?_ GE186.out)|exact HB.out)⟩⟩
    case rest =>
     clear HC20
     try clear c1
     try clear c2
     try clear p2
     try clear c6
     try clear c7
     try clear c9
     try clear c14
     try clear c17
     try clear c21
     try clear c24
     try clear c24b0
     try clear c25
     try clear c25b0
     try clear c25b1
     try clear hcz10_0
     try clear hcz10_1
     try clear hcz12_0
     try clear hcz12_1
     try clear hcz15_0
     try clear hcz15_1
     try clear hcz22_0
     try clear hcz22_1
     try clear hcz23_0
     try clear hcz23_1
     try clear hfz10_0
     try clear hfz10_1
     try clear hfz12_0
     try clear hfz12_1
     try clear hfz15_0
     try clear hfz15_1
     try clear hfz22_0
     try clear hfz22_1
     try clear hfz23_0
     try clear hfz23_1
     try clear p2
     obtain ⟨kq,x37_19,rfl,HA,HJ19,BK185,BK186,HB⟩:=hcut
     cases kq with
     | zero=>exact absurd HA.out (by simp [ratio_Cmp.j1])
     | succ kj19 =>
      have H:=HA.out
      clear HA
      simp only [ratio_Cmp.j1] at H
      by_cases c26 : x37_19 = true
      ·
       subst c26
       have H1 : (some (-1)) = some r:=by rw [if_pos rfl] at H;exact H
       clear H
       have H:=H1
       clear H1
       obtain rfl:=Option.some.inj H
       go_wp2
       go_ret
       exact ⟨by first|rfl|(simp [errW_none,errW_some] <;> rfl)|(simp [*,errW_none,errW_some] <;> rfl),by repeat (first|(with_reducible first|exact HB.out|apply ba|apply bb|apply bc|refine below_set ?_ GE185.out|refine below_set ?_ GE186.out)|exact HB.out)⟩
      ·
       replace c26:=Bool.eq_false_iff.mpr c26
       subst c26
       have H1 : (if t189 = t191 then (if t190 = t192 then (some 0) else (some 1)) else (some 1)) = some r:=by rw [if_neg (show ¬ (false = true) by decide)] at H;exact H
       clear H
       have H:=H1
       clear H1
       by_cases c27 : t189 = t191
       ·
        rw [if_pos c27] at H
        have c27b0 : (t189 == t191) = true:=beq_iff_eq.mpr c27
        have c27b1 : (t189 != t191) = false:=bne_eq_false_iff_eq.mpr c27
        clear c27
        by_cases c28 : t190 = t192
        ·
         rw [if_pos c28] at H
         have c28b0 : (t190 == t192) = true:=beq_iff_eq.mpr c28
         have c28b1 : (t190 != t192) = false:=bne_eq_false_iff_eq.mpr c28
         clear c28
         obtain rfl:=Option.some.inj H
         go_wp2
         go_ret
         exact ⟨by first|rfl|(simp [errW_none,errW_some] <;> rfl)|(simp [*,errW_none,errW_some] <;> rfl),by repeat (first|(with_reducible first|exact HB.out|apply ba|apply bb|apply bc|refine below_set ?_ GE185.out|refine below_set ?_ GE186.out)|exact HB.out)⟩
        ·
         rw [if_neg c28] at H
         have c28b0 : (t190 == t192) = false:=beq_eq_false_iff_ne.mpr c28
         have c28b1 : (t190 != t192) = true:=bne_iff_ne.mpr c28
         obtain rfl:=Option.some.inj H
         go_wp2
         go_ret
         exact ⟨by first|rfl|(simp [errW_none,errW_some] <;> rfl)|(simp [*,errW_none,errW_some] <;> rfl),by repeat (first|(with_reducible first|exact HB.out|apply ba|apply bb|apply bc|refine below_set ?_ GE185.out|refine below_set ?_ GE186.out)|exact HB.out)⟩
       ·
        rw [if_neg c27] at H
        have c27b0 : (t189 == t191) = false:=beq_eq_false_iff_ne.mpr c27
        have c27b1 : (t189 != t191) = true:=bne_iff_ne.mpr c27
        obtain rfl:=Option.some.inj H
        go_wp2
        go_ret
        exact ⟨by first|rfl|(simp [errW_none,errW_some] <;> rfl)|(simp [*,errW_none,errW_some] <;> rfl),by repeat (first|(with_reducible first|exact HB.out|apply ba|apply bb|apply bc|refine below_set ?_ GE185.out|refine below_set ?_ GE186.out)|exact HB.out)⟩

/-! ### ratio_Less: function 41 -/
def ratio_Less.f (k : Nat) (a0_0 : Int) (a0_1 : Int) (a1_0 : Int) (a1_1 : Int) : Option (Bool):=(ratio_Cmp.f k a0_0 a0_1 a1_0 a1_1).bind fun t195=>(some (decide (t195 < 0)))
theorem ratio_Less.mono : ∀ a0 a1 a2 a3 k,LeO (ratio_Less.f k a0 a1 a2 a3) (ratio_Less.f (k + 1) a0 a1 a2 a3):=by
 intro a0 a1 a2 a3 k
 unfold ratio_Less.f
 repeat' first
   | (with_reducible exact ratio_Cmp.mono _ _ _ _ _)
   | (with_reducible exact LeO.refl _)
   | (with_reducible exact LeO.none _)
   | (with_reducible refine LeO.ite ?_ ?_)
   | (with_reducible refine LeO.bind ?_ (fun _=>?_))
   | exact ratio_Cmp.mono _ _ _ _ _
   | exact LeO.none _
   | refine LeO.ite ?_ ?_
   | refine LeO.bind ?_ (fun _=>?_)
set_option maxHeartbeats 8000000 in
set_option maxRecDepth 100000 in
theorem ratio_Less.calls (k : Nat) (a0_0 : Int) (a0_1 : Int) (a1_0 : Int) (a1_1 : Int) (r : Bool) (w : World) (h : ratio_Less.f k a0_0 a0_1 a1_0 a1_1 = some r) :
  Calls Try.prog 41 #[.agg #[.int .i64 a0_0,.int .i64 a0_1],.agg #[.int .i64 a1_0,.int .i64 a1_1]] w fun e w'=>e = .returned (.bool r)∧Below w.heap.size w w':=by
 have hu36:=Try.underlying36
 have HB:=A_ (Below.refl w.heap.size w)
 have H : ((ratio_Cmp.f k a0_0 a0_1 a1_0 a1_1).bind fun t195=>(some (decide (t195 < 0)))) = some r:=h
 clear h
 replace H:=Option.bind_eq_some_iff.mp H
 obtain ⟨t195,A30,H⟩:=H
 replace H : (some (decide (t195 < 0))) = some r:=H
 have A3:=A_ A30
 clear A30
 obtain rfl:=Option.some.inj H
 go_enter Try.func41,Try.ntmps41
 go_wp2_with (first|((with_reducible refine gate_dst (N:=2) rfl ?_);refine box_event ?hg (N:=2) ?hd (cs:=#[.int .i64 a0_0,.int .i64 a0_1]) (t:=36) ?hr ?_;(case hd=>rfl);(case hg=>rfl);(case hr=>first|(go_simp;done)|(go_simp;rfl));intro gb193 hg w4 hbox hb;have n0_:=A_ (below_step (by repeat (first|(with_reducible first|exact HB.out|apply ba|apply bb|apply bc)|exact HB.out)) hb);have n1_:=A_ (hbox);have n2_:=A_ ((by rw [hg];exact (below_size (by repeat (first|(with_reducible first|exact HB.out|apply ba|apply bb|apply bc)|exact HB.out))) : w.heap.size ≤ gb193));have n3_:=A_ ((by rw [hg];exact (below_size (by repeat (first|(with_reducible first|exact HB.out|apply ba|apply bb|apply bc)|exact HB.out))) : w.heap.size ≤ gb193));clear HB;have HB:=n0_;have BK193:=n1_;have GW193:=n2_;have GE193:=n3_;clear n0_ n1_ n2_ n3_;clear hb hbox hg)|((with_reducible refine gate_dst (N:=3) rfl ?_);refine box_event ?hg (N:=3) ?hd (cs:=#[.int .i64 a1_0,.int .i64 a1_1]) (t:=36) ?hr ?_;(case hd=>rfl);(case hg=>rfl);(case hr=>first|(go_simp;done)|(go_simp;rfl));intro gb194 hg w5 hbox hb;have n0_:=A_ (blk_below (g:=gb193) (o:=.cells #[.int .i64 a0_0,.int .i64 a0_1] 36 (0,0)) (by (with_reducible repeat (first|refine blk_drewN ?_ _|refine blk_drew ?_|refine blk_alloc ?_ _));exact BK193.out) hb);have n1_:=A_ (below_step (by repeat (first|(with_reducible first|exact HB.out|apply ba|apply bb|apply bc|refine below_set ?_ GE193.out)|exact HB.out)) hb);have n2_:=A_ (hbox);have n3_:=A_ ((by rw [hg];exact (below_size (by repeat (first|(with_reducible first|exact HB.out|apply ba|apply bb|apply bc|refine below_set ?_ GE193.out)|exact HB.out))) : w.heap.size ≤ gb194));have n4_:=A_ ((by rw [hg];exact (below_size (by repeat (first|(with_reducible first|exact HB.out|apply ba|apply bb|apply bc|refine below_set ?_ GE193.out)|exact HB.out))) : w.heap.size ≤ gb194));have n5_:=A_ ((by rw [hg];exact Nat.ne_of_lt (blk_lt (g:=gb193) (o:=.cells #[.int .i64 a0_0,.int .i64 a0_1] 36 (0,0)) (by (with_reducible repeat (first|refine blk_drewN ?_ _|refine blk_drew ?_|refine blk_alloc ?_ _));exact BK193.out)) : gb193≠gb194));have n6_:=A_ ((by rw [hg];exact Nat.ne_of_gt (blk_lt (g:=gb193) (o:=.cells #[.int .i64 a0_0,.int .i64 a0_1] 36 (0,0)) (by (with_reducible repeat (first|refine blk_drewN ?_ _|refine blk_drew ?_|refine blk_alloc ?_ _));exact BK193.out)) : gb194≠gb193));clear BK193;clear HB;have BK193:=n0_;have HB:=n1_;have BK194:=n2_;have GW194:=n3_;have GE194:=n4_;have NB193_194:=n5_;have NB194_193:=n6_;clear n0_ n1_ n2_ n3_ n4_ n5_ n6_;clear hb hbox hg;have hnb6:=NB193_194.out;have hnc6:=NB194_193.out;have hcz7_0 : w5.cell? ⟨gb193,0,none⟩ = some (.int .i64 a0_0):=(blk_cell BK193.out 0).trans rfl;have hcz7_1 : w5.cell? ⟨gb193,1,none⟩ = some (.int .i64 a0_1):=(blk_cell BK193.out 1).trans rfl;have hfz7_0:=blk_frozen BK193.out 0;have hfz7_1:=blk_frozen BK193.out 1;have hcz8_0 : w5.cell? ⟨gb194,0,none⟩ = some (.int .i64 a1_0):=(blk_cell BK194.out 0).trans rfl;have hcz8_1 : w5.cell? ⟨gb194,1,none⟩ = some (.int .i64 a1_1):=(blk_cell BK194.out 1).trans rfl;have hfz8_0:=blk_frozen BK194.out 0;have hfz8_1:=blk_frozen BK194.out 1)|((with_reducible refine gate_callee (f:=63) rfl ?_);refine goesL_ (some 7) rfl rfl Try.func63 (by kernel_rfl) rfl #[.agg #[.int .i64 a0_0,.int .i64 a0_1],.agg #[.int .i64 a1_0,.int .i64 a1_1]] rfl (by (try simp only [List.map_toArray,List.map_cons,List.map_nil]);first|done|rfl|(simp only [List.length_drop,List.length_take];rfl)) ?_;(with_reducible refine (ratio_Cmp.calls k a0_0 a0_1 a1_0 a1_1 t195 _ A3.out).mono ?_);rintro e w9 ⟨rfl,hb⟩;refine ⟨_,rfl,?_⟩;have n0_:=A_ (blk_below (g:=gb193) (o:=.cells #[.int .i64 a0_0,.int .i64 a0_1] 36 (0,0)) (by (with_reducible repeat (first|refine blk_drewN ?_ _|refine blk_drew ?_|refine blk_alloc ?_ _));exact BK193.out) hb);have n1_:=A_ (blk_below (g:=gb194) (o:=.cells #[.int .i64 a1_0,.int .i64 a1_1] 36 (0,0)) (by (with_reducible repeat (first|refine blk_drewN ?_ _|refine blk_drew ?_|refine blk_alloc ?_ _));exact BK194.out) hb);have n2_:=A_ (below_step (by repeat (first|(with_reducible first|exact HB.out|apply ba|apply bb|apply bc|refine below_set ?_ GE193.out|refine below_set ?_ GE194.out)|exact HB.out)) hb);clear BK193;clear BK194;clear HB;have BK193:=n0_;have BK194:=n1_;have HB:=n2_;clear n0_ n1_ n2_;(try clear hb);(try clear hb2);(try clear hk);(try clear hi)))
 go_ret
 exact ⟨by first|rfl|(simp [errW_none,errW_some] <;> rfl)|(simp [*,errW_none,errW_some] <;> rfl),by repeat (first|(with_reducible first|exact HB.out|apply ba|apply bb|apply bc|refine below_set ?_ GE193.out|refine below_set ?_ GE194.out)|exact HB.out)⟩

/-! ### channels_Greatest: function 16 -/
def channels_Greatest.l0 : Nat → List (List Int) → List (List Int) → Int → Int → Int → Int → Option (Int × Int × Int)
 | 0,_,_,_,_,_,_=>none
 | k + 1,x0,x1,x20,x21,x199000,x199001=>if x21 < x20 then (if 0 ≤ x21 then (if x21 < (x0.length : Int) then (if x21 < (x1.length : Int) then ((normal_Gap.f k (rd_L1 x0 x21) (rd_L1 x1 x21)).bind fun bt201=>(if bt201.2.2 = 0 then ((ratio_Less.f k x199000 x199001 bt201.1 bt201.2.1).bind fun t205=>(if t205 = true then (channels_Greatest.l0 k x0 x1 x20 (wrap64 (x21 + 1)) bt201.1 bt201.2.1) else (channels_Greatest.l0 k x0 x1 x20 (wrap64 (x21 + 1)) x199000 x199001))) else (some (0,0,bt201.2.2)))) else (none)) else (none)) else (none)) else (some (x199000,x199001,0))
def channels_Greatest.f (k : Nat) (l0 : List (List Int)) (l1 : List (List Int)) : Option (Int × Int × Int):=(channels_check.f k l0 l1 0).bind fun t197=>(if t197 = 0 then (channels_Greatest.l0 k l0 l1 (l0.length : Int) 0 0 1) else (some (0,0,t197)))
theorem channels_Greatest.mono_l : ∀ k,(∀ y0 y1 y2 y3 y4 y5,LeO (channels_Greatest.l0 k y0 y1 y2 y3 y4 y5) (channels_Greatest.l0 (k + 1) y0 y1 y2 y3 y4 y5))
 | 0=>fun _ _ _ _ _ _ r h=>by simp [channels_Greatest.l0] at h
 | k + 1=>by
  have ih0:=channels_Greatest.mono_l k
  ·
   intro y0 y1 y2 y3 y4 y5
   unfold channels_Greatest.l0
   repeat' first
   | (with_reducible exact ih0 _ _ _ _ _ _)
   | (with_reducible exact channels_check.mono _ _ _ _)
   | (with_reducible exact normal_Gap.mono _ _ _)
   | (with_reducible exact ratio_Less.mono _ _ _ _ _)
   | (with_reducible exact LeO.refl _)
   | (with_reducible exact LeO.none _)
   | (with_reducible refine LeO.ite ?_ ?_)
   | (with_reducible refine LeO.bind ?_ (fun _=>?_))
   | exact ih0 _ _ _ _ _ _
   | exact channels_check.mono _ _ _ _
   | exact normal_Gap.mono _ _ _
   | exact ratio_Less.mono _ _ _ _ _
   | exact LeO.none _
   | refine LeO.ite ?_ ?_
   | refine LeO.bind ?_ (fun _=>?_)
theorem channels_Greatest.mono : ∀ a0 a1 k,LeO (channels_Greatest.f k a0 a1) (channels_Greatest.f (k + 1) a0 a1):=by
 intro a0 a1 k
 have ih0:=channels_Greatest.mono_l k
 unfold channels_Greatest.f
 repeat' first
   | (with_reducible exact ih0 _ _ _ _ _ _)
   | (with_reducible exact channels_check.mono _ _ _ _)
   | (with_reducible exact normal_Gap.mono _ _ _)
   | (with_reducible exact ratio_Less.mono _ _ _ _ _)
   | (with_reducible exact LeO.refl _)
   | (with_reducible exact LeO.none _)
   | (with_reducible refine LeO.ite ?_ ?_)
   | (with_reducible refine LeO.bind ?_ (fun _=>?_))
   | exact ih0 _ _ _ _ _ _
   | exact channels_check.mono _ _ _ _
   | exact normal_Gap.mono _ _ _
   | exact ratio_Less.mono _ _ _ _ _
   | exact LeO.none _
   | refine LeO.ite ?_ ?_
   | refine LeO.bind ?_ (fun _=>?_)
theorem channels_Greatest.ld {w : World} {g : Nat} {x y : Int} (h : w.heap[g]? = some (.cells #[.int .i64 x,.int .i64 y] 36 (0,0))) : w.cell? ⟨g,0,none⟩ = some (.int .i64 x)∧w.cell? ⟨g,1,none⟩ = some (.int .i64 y)∧w.frozen? ⟨g,0,none⟩ = false∧w.frozen? ⟨g,1,none⟩ = false :=
 ⟨(blk_cell h 0).trans rfl,(blk_cell h 1).trans rfl,blk_frozen h 0,blk_frozen h 1⟩
theorem channels_Greatest.st {w : World} {g : Nat} {x y : Int} (x1 y1 : Int) (h : w.heap[g]? = some (.cells #[.int .i64 x,.int .i64 y] 36 (0,0))) : ((w.setCell ⟨g,0,none⟩ (.int .i64 x1)).setCell ⟨g,1,none⟩ (.int .i64 y1)).heap[g]? = some (.cells #[.int .i64 x1,.int .i64 y1] 36 (0,0)):=blk_set (blk_set h 0 _) 1 _
theorem channels_Greatest.fa {w : World} {g g' : Nat} {o : Obj} (u v : Value) (hne : g'≠g) (h : w.heap[g']? = some o) : ((w.setCell ⟨g,0,none⟩ u).setCell ⟨g,1,none⟩ v).heap[g']? = some o:=(Below.heap_setCell _ ⟨g,1,none⟩ v g' hne).trans ((Below.heap_setCell _ ⟨g,0,none⟩ u g' hne).trans h)
theorem channels_Greatest.bcell {W w1 : World} (hb : Below W.heap.size W w1) : (∀ b o,b < W.heap.size → w1.cell? ⟨b,o,none⟩ = W.cell? ⟨b,o,none⟩)∧(∀ b o,b < W.heap.size → w1.frozen? ⟨b,o,none⟩ = W.frozen? ⟨b,o,none⟩) :=
 ⟨fun b o h=>hb.cell (p:=⟨b,o,none⟩) h,fun b o h=>hb.frozen (p:=⟨b,o,none⟩) h⟩
theorem channels_Greatest.be {w W : World} {g : Nat} (u v : Value) (hg : w.heap.size ≤ g) (h : Below w.heap.size w W) : Below w.heap.size w ((W.setCell ⟨g,0,none⟩ u).setCell ⟨g,1,none⟩ v):=(h.setCell (p:=⟨g,0,none⟩) hg u).setCell (p:=⟨g,1,none⟩) hg v
set_option maxHeartbeats 8000000 in
set_option maxRecDepth 100000 in
theorem channels_Greatest.calls (k : Nat) (A0 : Option Addr) (c0 : Nat) (l0 : List (List Int)) (A1 : Option Addr) (c1 : Nat) (l1 : List (List Int)) (r1 : Int) (r2 : Int) (r3 : Int) (w : World) (hr0 : Kd.C (Kd.slice 3 (Kd.int .i64)) w A0 l0.length l0) (hc0 : l0.length ≤ c0) (hr1 : Kd.C (Kd.slice 3 (Kd.int .i64)) w A1 l1.length l1) (hc1 : l1.length ≤ c1) (h : channels_Greatest.f k l0 l1 = some (r1,r2,r3)) :
  Calls Try.prog 16 #[.slice A0 l0.length c0,.slice A1 l1.length c1] w fun e w'=>e = .returned (.tuple #[.agg #[.int .i64 r1,.int .i64 r2],.int .i64 r3])∧Below w.heap.size w w':=by
 have HR0:=A_ hr0
 have HR1:=A_ hr1
 unfold channels_Greatest.f at h
 obtain ⟨e0,he,H1⟩:=Option.bind_eq_some_iff.mp h
 have HCK:=A_ (fun (W : World) (hW : Below w.heap.size w W)=>channels_check.calls k A0 c0 l0 A1 c1 l1 0 e0 W (cl hr0 hW) hc0 (cl hr1 hW) hc1 he)
 clear h he hr0 hr1 hc0 hc1
 go_enter Try.func16,Try.ntmps16
 go_upto_region 1 with (fail)
 have HZ:=A_ (heap_alloc_new w (Obj.cells #[.int .i64 0,.int .i64 0] 36))
 have HB:=A_ ((Below.refl w.heap.size w).alloc (Nat.le_refl _) (Obj.cells #[.int .i64 0,.int .i64 0] 36))
 generalize w.alloc (Obj.cells #[.int .i64 0,.int .i64 0] 36) = W0 at HZ HB ⊢
 by_cases h0 : e0 = 0
 case neg =>
  have hn : (e0 != 0) = true:=bne_iff_ne.mpr h0
  rw [if_neg h0] at H1
  clear h0
  cases H1
  go_upto_region 3 with (go_at_call 32;refine (HCK.out W0 HB.out).mono ?_;rintro e w1 ⟨rfl,hb1⟩)
  have HZ1:=A_ (blk_below HZ.out hb1)
  have HB1:=A_ (below_step HB.out hb1)
  clear hb1
  obtain ⟨z0,z1,f0,f1⟩:=channels_Greatest.ld HZ1.out
  go_wp2_with fail
  exact bodyPost_ret (results_ct rfl _ _ w.heap.size 36 _ (0,0) _ rfl (channels_Greatest.st 0 0 HZ1.out) Try.underlying36 rfl (by kernel_rfl)) rfl ⟨rfl,channels_Greatest.be _ _ (Nat.le_refl _) HB1.out⟩
 rw [if_pos h0] at H1
 subst h0
 go_upto_region 4 with (go_at_call 32;refine (HCK.out W0 HB.out).mono ?_;rintro e w1 ⟨rfl,hb1⟩)
 have HZ1:=A_ (blk_below HZ.out hb1)
 have HB1:=A_ (below_step HB.out hb1)
 clear hb1 HZ HB HCK
 clear W0
 go_wp2_with fail
 have HQ:=A_ (heap_alloc_new w1 (Obj.cells #[.int .i64 0,.int .i64 1] 36))
 have HZ2:=A_ (blk_alloc HZ1.out (Obj.cells #[.int .i64 0,.int .i64 1] 36))
 have HB2:=A_ (HB1.out.alloc HB1.out.size (Obj.cells #[.int .i64 0,.int .i64 1] 36))
 have hgb:=blk_lt HZ1.out
 generalize w1.alloc (Obj.cells #[.int .i64 0,.int .i64 1] 36) = W2 at HQ HZ2 HB2 ⊢
 generalize w1.heap.size = gq at HQ hgb ⊢
 have HH:=A_ H1
 clear H1 HZ1 HB1 w1
 go_loopg [21] k (fun gk s21 wx=>∃ (z b0 b1 : Int),s21 = .int .i64 z∧Aside0 (channels_Greatest.l0 gk l0 l1 (l0.length : Int) z b0 b1 = some (r1,r2,r3))∧Aside0 (gk ≤ k)∧Aside0 (wx.heap[w.heap.size]? = some (.cells #[.int .i64 0,.int .i64 0] 36 (0,0)))∧Aside0 (wx.heap[gq]? = some (.cells #[.int .i64 b0,.int .i64 b1] 36 (0,0)))∧Aside0 (Below w.heap.size w wx))
 case atStart=>exact ⟨0,0,1,rfl,HH,⟨Nat.le_refl _⟩,HZ2,HQ,HB2⟩
 case round =>
  clear HH HZ2 HQ HB2
  obtain ⟨z,b0,b1,rfl,HH,HKK,HZ,HQ,HBw⟩:=hrel
  cases gk with
  | zero=>exact absurd HH.out (by simp [channels_Greatest.l0])
  | succ gk =>
   have H:=HH.out
   clear HH
   simp only [channels_Greatest.l0] at H
   by_cases g1 : z < (l0.length : Int)
   case neg =>
    rw [if_neg g1] at H
    have d1 : decide (z < (l0.length : Int)) = false:=decide_eq_false g1
    clear g1
    cases H
    obtain ⟨q0,q1,q2,q3⟩:=channels_Greatest.ld HQ.out
    obtain ⟨z0,z1,f0,f1⟩:=channels_Greatest.ld HZ.out
    go_wp2_with fail
    exact bodyPost_ret (results_ct rfl _ _ w.heap.size 36 _ (0,0) _ rfl (channels_Greatest.st _ _ HZ.out) Try.underlying36 rfl (by kernel_rfl)) rfl ⟨rfl,channels_Greatest.be _ _ (Nat.le_refl _) HBw.out⟩
   rw [if_pos g1] at H
   by_cases g2 : 0 ≤ z
   case neg=>rw [if_neg g2] at H;cases H
   rw [if_pos g2,if_pos g1] at H
   by_cases g3 : z < (l1.length : Int)
   case neg=>rw [if_neg g3] at H;cases H
   rw [if_pos g3] at H
   obtain ⟨⟨v1,v2,e1⟩,hgap,H2⟩:=Option.bind_eq_some_iff.mp H
   clear H
   obtain ⟨ad0,B0,d0,rfl,hx0,hy0,hz0⟩:=at_L1 (cl HR0.out HBw.out) z g2 g1
   obtain ⟨ad1,B1,d1,rfl,hx1,hy1,hz1⟩:=at_L1 (cl HR1.out HBw.out) z g2 g3
   have HG:=A_ (fun (W : World) (hW : Below wr.heap.size wr W)=>normal_Gap.calls gk B0 d0 _ B1 d1 _ v1 v2 e1 W (cl hz0 hW) hy0 (cl hz1 hW) hy1 hgap)
   have HH2:=A_ (show (if e1 = 0 then ((ratio_Less.f gk b0 b1 v1 v2).bind fun t=>(if t = true then channels_Greatest.l0 gk l0 l1 (l0.length : Int) (wrap64 (z + 1)) v1 v2 else channels_Greatest.l0 gk l0 l1 (l0.length : Int) (wrap64 (z + 1)) b0 b1)) else some (0,0,e1)) = some (r1,r2,r3) from H2)
   clear H2 hgap hz0 hz1 hy0 hy1
   generalize (rd_L1 l0 z).length = n0 at hx0 HG
   generalize (rd_L1 l1 z).length = n1 at hx1 HG
   go_upto_region 8 with (fail)
   go_cut [9,10] (fun s9 s10 wx=>∃ g,s9 = .pointer (some ⟨g,0,none⟩)∧s10 = .int .i64 e1∧wr.heap.size ≤ g∧Aside0 (wx.heap[g]? = some (.cells #[.int .i64 v1,.int .i64 v2] 36 (0,0)))∧Aside0 (Below wr.heap.size wr wx))
   case first =>
    have HKS:=A_ (show ∀ W : World,Below wr.heap.size wr W → W.cell? (ad0.add z.toNat) = some (.slice B0 n0 d0)∧W.cell? (ad1.add z.toNat) = some (.slice B1 n1 d1) from fun W hW=>⟨(hW.cell (World.block_lt_of_cell? _ _ hx0)).trans hx0,(hW.cell (World.block_lt_of_cell? _ _ hx1)).trans hx1⟩)
    go_region_held3 (fun W=>W.cell? (ad0.add z.toNat) = some (.slice B0 n0 d0)∧W.cell? (ad1.add z.toNat) = some (.slice B1 n1 d1)) (first|go_keep|exact HKS.out _ (by repeat (first|exact HB3.out|exact Below.refl _ _|apply below_alloc|apply below_drew|(refine Below.setCell ?_ (by simp) _)))) ((go_at_call 40;refine (HG.out _ (by repeat (first|exact Below.refl _ _|apply below_drew|apply below_alloc))).mono ?_;rintro e w3 ⟨rfl,hb3⟩;have HB3:=A_ (show Below wr.heap.size wr w3 from below_step (by repeat (first|exact Below.refl _ _|apply below_alloc|apply below_drew)) hb3);have hz3:=hb3.size;obtain ⟨hd3,hf3⟩:=channels_Greatest.bcell hb3;simp only [World.size_alloc,World.size_drew] at hz3 hd3 hf3;have HBB:=A_ hb3;(try (have hv3 : wr.heap.size < w3.heap.size:=by omega));have hu3 : wr.heap.size ≤ w3.heap.size:=(by omega);clear hb3))
    all_goals (go_wp2_with fail;go_meet)
    all_goals refine ⟨_,rfl,rfl,by first|exact hu3|exact Nat.le_refl _,⟨?_⟩,⟨?_⟩⟩
    all_goals first
     | exact heap_alloc_new w3 _
     | exact channels_Greatest.st _ _ (blk_below (w:=wr.alloc _) (heap_alloc_new wr _) HBB.out)
     | exact channels_Greatest.st _ _ (blk_below (w:=(wr.alloc _).drew) (blk_drew (heap_alloc_new wr _)) HBB.out)
     | exact HB3.out.alloc hu3 _
     | exact (HB3.out.setCell (p:=⟨wr.heap.size,0,none⟩) (Nat.le_refl _) _).setCell (p:=⟨wr.heap.size,1,none⟩) (Nat.le_refl _) _
   case rest =>
    obtain ⟨g,rfl,rfl,hgg,HX,HBg⟩:=hcut
    have HZ2:=A_ (blk_below HZ.out HBg.out)
    have HQ2:=A_ (blk_below HQ.out HBg.out)
    have HB2:=A_ (below_step HBw.out HBg.out)
    have n1:=blk_lt HZ.out
    have n2:=blk_lt HQ.out
    obtain ⟨z0,z1,f0,f1⟩:=channels_Greatest.ld HZ2.out
    obtain ⟨q0,q1,q2,q3⟩:=channels_Greatest.ld HQ2.out
    obtain ⟨x0,x1,-,-⟩:=channels_Greatest.ld HX.out
    have H:=HH2.out
    clear HH2 HG HZ HQ HBw HBg hx0 hx1
    by_cases h0 : e1 = 0
    case neg =>
     have hn : (e1 != 0) = true:=bne_iff_ne.mpr h0
     rw [if_neg h0] at H
     clear h0
     cases H
     go_wp2_with fail
     exact bodyPost_ret (results_ct rfl _ _ w.heap.size 36 _ (0,0) _ rfl (channels_Greatest.st _ _ HZ2.out) Try.underlying36 rfl (by kernel_rfl)) rfl ⟨rfl,channels_Greatest.be _ _ (Nat.le_refl _) HB2.out⟩
    rw [if_pos h0] at H
    subst h0
    obtain ⟨t,ht,H2⟩:=Option.bind_eq_some_iff.mp H
    have HT:=A_ ht
    clear H ht z0 z1 f0 f1 q2 q3
    cases t with
    | true =>
     have HN:=A_ (show channels_Greatest.l0 gk l0 l1 (l0.length : Int) (wrap64 (z + 1)) v1 v2 = some (r1,r2,r3) from H2)
     clear H2
     go_upto_region 12 with (go_at_call 41;refine (ratio_Less.calls gk b0 b1 v1 v2 true _ HT.out).mono ?_;rintro e w4 ⟨rfl,hb4⟩)
     have HZ4:=A_ (blk_below HZ2.out hb4)
     have HQ4:=A_ (blk_below HQ2.out hb4)
     have HX4:=A_ (blk_below HX.out hb4)
     have HB4:=A_ (below_step HB2.out hb4)
     clear hb4 x0 x1 q0 q1
     obtain ⟨q0,q1,q2,q3⟩:=channels_Greatest.ld HQ4.out
     obtain ⟨x0,x1,-,-⟩:=channels_Greatest.ld HX4.out
     go_wp2_with fail
     go_roundg gk
     case measure=>have:=HKK.out;omega
     case rel=>exact ⟨wrap64 (z + 1),v1,v2,by first|rfl|simp,HN,⟨by have:=HKK.out;omega⟩,⟨channels_Greatest.fa _ _ (by omega) HZ4.out⟩,⟨channels_Greatest.st _ _ HQ4.out⟩,⟨channels_Greatest.be _ _ (by omega) HB4.out⟩⟩
    | false =>
     have HN:=A_ (show channels_Greatest.l0 gk l0 l1 (l0.length : Int) (wrap64 (z + 1)) b0 b1 = some (r1,r2,r3) from H2)
     clear H2
     go_wp2_with (go_at_call 41;refine (ratio_Less.calls gk b0 b1 v1 v2 false _ HT.out).mono ?_;rintro e w4 ⟨rfl,hb4⟩;have HZ4:=A_ (blk_below HZ2.out hb4);have HQ4:=A_ (blk_below HQ2.out hb4);have HB4:=A_ (below_step HB2.out hb4);clear hb4)
     go_roundg gk
     case measure=>have:=HKK.out;omega
     case rel=>exact ⟨wrap64 (z + 1),b0,b1,by first|rfl|simp,HN,⟨by have:=HKK.out;omega⟩,HZ4,HQ4,HB4⟩

end Go.Proofs.Ytodipcfbgnljeaa.PChannelsGreatest
