/- This file proves, function by function, what the Go functions that one law uses compute; most of it was printed by a program (wip/tools of this session, over the kit's print). -/
import Derived.Test.YthpiafbloebpjaaPDeviceStepsx0
namespace Go.Proofs.Ythpiafbloebpjaa.PDeviceSteps
open Go.RowKit Go.Proofs.YthpiafbloebpjaaW.PrintWords Go.Proofs.YthpiafbloebpjaaW.PrintLast Go.Proofs.YthpiafbloebpjaaW.PrintMore
attribute [local go_sem] max2_int min2_int max_two min_two max_three min_three max_four min_four   -- for this text's walks alone
set_option linter.unusedVariables false
set_option linter.unusedSimpArgs false

/-! ### shapesearchref24_Same: function 9 -/
mutual
def shapesearchref24_Same.j0 : Nat → Bool → List (List Int) → List (S42) → List (List Int) → List (S42) → Option (Bool)
 | 0,_,_,_,_,_=>none
 | k + 1,x22,x200000,x200001,x201000,x201001=>if x22 = true then (some false) else (shapesearchref24_Same.l0 k 0 x200000 x200001 x201000 x201001)
def shapesearchref24_Same.l0 : Nat → Int → List (List Int) → List (S42) → List (List Int) → List (S42) → Option (Bool)
 | 0,_,_,_,_,_=>none
 | k + 1,x5,x200000,x200001,x201000,x201001=>if x5 < (x200000.length : Int) then (if 0 ≤ x5 then (if x5 < (x201000.length : Int) then (if (strOfNums (rd_L1 x200000 x5)).toList = (strOfNums (rd_L1 x201000 x5)).toList then (shapesearchref24_Same.l0 k (wrap64 (x5 + 1)) x200000 x200001 x201000 x201001) else (some false)) else (none)) else (none)) else (shapesearchref24_Same.l1 k 0 x200000 x200001 x201000 x201001)
def shapesearchref24_Same.l1 : Nat → Int → List (List Int) → List (S42) → List (List Int) → List (S42) → Option (Bool)
 | 0,_,_,_,_,_=>none
 | k + 1,x6,x200000,x200001,x201000,x201001=>if x6 < (x200001.length : Int) then (if 0 ≤ x6 then (if x6 < (x201001.length : Int) then (if ((rd_T42 x200001 x6).f0) = ((rd_T42 x201001 x6).f0) then (if (strOfNums ((rd_T42 x200001 x6).f1)).toList = (strOfNums ((rd_T42 x201001 x6).f1)).toList then (shapesearchref24_Same.l1 k (wrap64 (x6 + 1)) x200000 x200001 x201000 x201001) else (some false)) else (some false)) else (none)) else (none)) else (some true)
end
def shapesearchref24_Same.f (k : Nat) (l0_0 : List (List Int)) (l0_1 : List (S42)) (l1_0 : List (List Int)) (l1_1 : List (S42)) : Option (Bool):=if (l0_0.length : Int) = (l1_0.length : Int) then (shapesearchref24_Same.j0 k ((l0_1.length : Int) != (l1_1.length : Int)) l0_0 l0_1 l1_0 l1_1) else (shapesearchref24_Same.j0 k true l0_0 l0_1 l1_0 l1_1)
theorem shapesearchref24_Same.mono_l : ∀ k,(∀ y0 y1 y2 y3 y4,LeO (shapesearchref24_Same.j0 k y0 y1 y2 y3 y4) (shapesearchref24_Same.j0 (k + 1) y0 y1 y2 y3 y4))∧(∀ y0 y1 y2 y3 y4,LeO (shapesearchref24_Same.l0 k y0 y1 y2 y3 y4) (shapesearchref24_Same.l0 (k + 1) y0 y1 y2 y3 y4))∧(∀ y0 y1 y2 y3 y4,LeO (shapesearchref24_Same.l1 k y0 y1 y2 y3 y4) (shapesearchref24_Same.l1 (k + 1) y0 y1 y2 y3 y4))
 | 0=>⟨fun _ _ _ _ _ r h=>by simp [shapesearchref24_Same.j0] at h,fun _ _ _ _ _ r h=>by simp [shapesearchref24_Same.l0] at h,fun _ _ _ _ _ r h=>by simp [shapesearchref24_Same.l1] at h⟩
 | k + 1=>by
  obtain ⟨ih0,ih1,ih2⟩:=shapesearchref24_Same.mono_l k
  refine ⟨?_,?_,?_⟩
  ·
   intro y0 y1 y2 y3 y4
   unfold shapesearchref24_Same.j0
   repeat' first
   | (with_reducible exact ih0 _ _ _ _ _)
   | (with_reducible exact ih1 _ _ _ _ _)
   | (with_reducible exact ih2 _ _ _ _ _)
   | (with_reducible exact LeO.refl _)
   | (with_reducible exact LeO.none _)
   | (with_reducible refine LeO.ite ?_ ?_)
   | (with_reducible refine LeO.bind ?_ (fun _=>?_))
   | exact ih0 _ _ _ _ _
   | exact ih1 _ _ _ _ _
   | exact ih2 _ _ _ _ _
   | exact LeO.none _
   | refine LeO.ite ?_ ?_
   | refine LeO.bind ?_ (fun _=>?_)
  ·
   intro y0 y1 y2 y3 y4
   unfold shapesearchref24_Same.l0
   repeat' first
   | (with_reducible exact ih0 _ _ _ _ _)
   | (with_reducible exact ih1 _ _ _ _ _)
   | (with_reducible exact ih2 _ _ _ _ _)
   | (with_reducible exact LeO.refl _)
   | (with_reducible exact LeO.none _)
   | (with_reducible refine LeO.ite ?_ ?_)
   | (with_reducible refine LeO.bind ?_ (fun _=>?_))
   | exact ih0 _ _ _ _ _
   | exact ih1 _ _ _ _ _
   | exact ih2 _ _ _ _ _
   | exact LeO.none _
   | refine LeO.ite ?_ ?_
   | refine LeO.bind ?_ (fun _=>?_)
  ·
   intro y0 y1 y2 y3 y4
   unfold shapesearchref24_Same.l1
   repeat' first
   | (with_reducible exact ih0 _ _ _ _ _)
   | (with_reducible exact ih1 _ _ _ _ _)
   | (with_reducible exact ih2 _ _ _ _ _)
   | (with_reducible exact LeO.refl _)
   | (with_reducible exact LeO.none _)
   | (with_reducible refine LeO.ite ?_ ?_)
   | (with_reducible refine LeO.bind ?_ (fun _=>?_))
   | exact ih0 _ _ _ _ _
   | exact ih1 _ _ _ _ _
   | exact ih2 _ _ _ _ _
   | exact LeO.none _
   | refine LeO.ite ?_ ?_
   | refine LeO.bind ?_ (fun _=>?_)
theorem shapesearchref24_Same.mono : ∀ a0 a1 a2 a3 k,LeO (shapesearchref24_Same.f k a0 a1 a2 a3) (shapesearchref24_Same.f (k + 1) a0 a1 a2 a3):=by
 intro a0 a1 a2 a3 k
 obtain ⟨ih0,ih1,ih2⟩:=shapesearchref24_Same.mono_l k
 unfold shapesearchref24_Same.f
 repeat' first
   | (with_reducible exact ih0 _ _ _ _ _)
   | (with_reducible exact ih1 _ _ _ _ _)
   | (with_reducible exact ih2 _ _ _ _ _)
   | (with_reducible exact LeO.refl _)
   | (with_reducible exact LeO.none _)
   | (with_reducible refine LeO.ite ?_ ?_)
   | (with_reducible refine LeO.bind ?_ (fun _=>?_))
   | exact ih0 _ _ _ _ _
   | exact ih1 _ _ _ _ _
   | exact ih2 _ _ _ _ _
   | exact LeO.none _
   | refine LeO.ite ?_ ?_
   | refine LeO.bind ?_ (fun _=>?_)
set_option maxHeartbeats 8000000 in
set_option maxRecDepth 100000 in
theorem shapesearchref24_Same.calls (k : Nat) (A0_0 : Option Addr) (c0_0 : Nat) (l0_0 : List (List Int)) (A0_1 : Option Addr) (c0_1 : Nat) (l0_1 : List (S42)) (A1_0 : Option Addr) (c1_0 : Nat) (l1_0 : List (List Int)) (A1_1 : Option Addr) (c1_1 : Nat) (l1_1 : List (S42)) (r : Bool) (w : World) (hr0_0 : Kd.C (Kd.slice 5 (Kd.int .u8)) w A0_0 l0_0.length l0_0) (hc0_0 : l0_0.length ≤ c0_0) (hr0_1 : Kd.C k42 w A0_1 l0_1.length l0_1) (hc0_1 : l0_1.length ≤ c0_1) (hr1_0 : Kd.C (Kd.slice 5 (Kd.int .u8)) w A1_0 l1_0.length l1_0) (hc1_0 : l1_0.length ≤ c1_0) (hr1_1 : Kd.C k42 w A1_1 l1_1.length l1_1) (hc1_1 : l1_1.length ≤ c1_1) (h : shapesearchref24_Same.f k l0_0 l0_1 l1_0 l1_1 = some r) :
  Calls Try.prog 9 #[.agg #[.slice A0_0 l0_0.length c0_0,.slice A0_1 l0_1.length c0_1],.agg #[.slice A1_0 l1_0.length c1_0,.slice A1_1 l1_1.length c1_1]] w fun e w'=>e = .returned (.bool r)∧Below w.heap.size w w':=by
 have hu25:=Try.underlying25
 have HR0_0:=A_ hr0_0
 have HC0_0:=A_ hc0_0
 clear hr0_0 hc0_0
 have HR0_1:=A_ hr0_1
 have HC0_1:=A_ hc0_1
 clear hr0_1 hc0_1
 have HR1_0:=A_ hr1_0
 have HC1_0:=A_ hc1_0
 clear hr1_0 hc1_0
 have HR1_1:=A_ hr1_1
 have HC1_1:=A_ hc1_1
 clear hr1_1 hc1_1
 have HB:=A_ (Below.refl w.heap.size w)
 have H : (if (l0_0.length : Int) = (l1_0.length : Int) then (shapesearchref24_Same.j0 k ((l0_1.length : Int) != (l1_1.length : Int)) l0_0 l0_1 l1_0 l1_1) else (shapesearchref24_Same.j0 k true l0_0 l0_1 l1_0 l1_1)) = some r:=h
 clear h
 have HC3:=A_ H
 clear H
 go_enter Try.func9,Try.ntmps9
 go_upto_region 1 with (first|((with_reducible refine gate_dst (N:=2) rfl ?_);(try (refine gate_guard (by rfl) ?_;dsimp only));refine box_event ?hg (N:=2) ?hd (cs:=#[.slice A0_0 l0_0.length c0_0,.slice A0_1 l0_1.length c0_1]) (t:=25) ?hr ?_;(case hd=>rfl);(case hg=>rfl);(case hr=>first|(go_simp;done)|(go_simp;rfl));intro gb199 hg w4 hbox hb;have n0_:=A_ (below_step (by repeat (first|(with_reducible first|exact HB.out|apply ba|apply bb|apply bc)|exact HB.out)) hb);have n1_:=A_ (hbox);have n2_:=A_ ((by rw [hg];exact (below_size (by repeat (first|(with_reducible first|exact HB.out|apply ba|apply bb|apply bc)|exact HB.out))) : w.heap.size ≤ gb199));have n3_:=A_ ((by rw [hg];exact (below_size (by repeat (first|(with_reducible first|exact HB.out|apply ba|apply bb|apply bc)|exact HB.out))) : w.heap.size ≤ gb199));clear HB;have HB:=n0_;have BK199:=n1_;have GW199:=n2_;have GE199:=n3_;clear n0_ n1_ n2_ n3_;clear hb hbox hg)|((with_reducible refine gate_dst (N:=3) rfl ?_);(try (refine gate_guard (by rfl) ?_;dsimp only));refine box_event ?hg (N:=3) ?hd (cs:=#[.slice A1_0 l1_0.length c1_0,.slice A1_1 l1_1.length c1_1]) (t:=25) ?hr ?_;(case hd=>rfl);(case hg=>rfl);(case hr=>first|(go_simp;done)|(go_simp;rfl));intro gb200 hg w5 hbox hb;have n0_:=A_ (blk_below (g:=gb199) (o:=.cells #[.slice A0_0 l0_0.length c0_0,.slice A0_1 l0_1.length c0_1] 25 (0,0)) (by (with_reducible repeat (first|refine blk_drewN ?_ _|refine blk_drew ?_|refine blk_alloc ?_ _));exact BK199.out) hb);have n1_:=A_ (below_step (by repeat (first|(with_reducible first|exact HB.out|apply ba|apply bb|apply bc|refine below_set ?_ GE199.out)|exact HB.out)) hb);have n2_:=A_ (hbox);have n3_:=A_ ((by rw [hg];exact (below_size (by repeat (first|(with_reducible first|exact HB.out|apply ba|apply bb|apply bc|refine below_set ?_ GE199.out)|exact HB.out))) : w.heap.size ≤ gb200));have n4_:=A_ ((by rw [hg];exact (below_size (by repeat (first|(with_reducible first|exact HB.out|apply ba|apply bb|apply bc|refine below_set ?_ GE199.out)|exact HB.out))) : w.heap.size ≤ gb200));have n5_:=A_ ((by rw [hg];exact Nat.ne_of_lt (blk_lt (g:=gb199) (o:=.cells #[.slice A0_0 l0_0.length c0_0,.slice A0_1 l0_1.length c0_1] 25 (0,0)) (by (with_reducible repeat (first|refine blk_drewN ?_ _|refine blk_drew ?_|refine blk_alloc ?_ _));exact BK199.out)) : gb199≠gb200));have n6_:=A_ ((by rw [hg];exact Nat.ne_of_gt (blk_lt (g:=gb199) (o:=.cells #[.slice A0_0 l0_0.length c0_0,.slice A0_1 l0_1.length c0_1] 25 (0,0)) (by (with_reducible repeat (first|refine blk_drewN ?_ _|refine blk_drew ?_|refine blk_alloc ?_ _));exact BK199.out)) : gb200≠gb199));clear BK199;clear HB;have BK199:=n0_;have HB:=n1_;have BK200:=n2_;have GW200:=n3_;have GE200:=n4_;have NB199_200:=n5_;have NB200_199:=n6_;clear n0_ n1_ n2_ n3_ n4_ n5_ n6_;clear hb hbox hg))
 repeat (go_quiet (first|((with_reducible refine gate_dst (N:=2) rfl ?_);(try (refine gate_guard (by rfl) ?_;dsimp only));refine box_event ?hg (N:=2) ?hd (cs:=#[.slice A0_0 l0_0.length c0_0,.slice A0_1 l0_1.length c0_1]) (t:=25) ?hr ?_;(case hd=>rfl);(case hg=>rfl);(case hr=>first|(go_simp;done)|(go_simp;rfl));intro gb199 hg w4 hbox hb;have n0_:=A_ (below_step (by repeat (first|(with_reducible first|exact HB.out|apply ba|apply bb|apply bc)|exact HB.out)) hb);have n1_:=A_ (hbox);have n2_:=A_ ((by rw [hg];exact (below_size (by repeat (first|(with_reducible first|exact HB.out|apply ba|apply bb|apply bc)|exact HB.out))) : w.heap.size ≤ gb199));have n3_:=A_ ((by rw [hg];exact (below_size (by repeat (first|(with_reducible first|exact HB.out|apply ba|apply bb|apply bc)|exact HB.out))) : w.heap.size ≤ gb199));clear HB;have HB:=n0_;have BK199:=n1_;have GW199:=n2_;have GE199:=n3_;clear n0_ n1_ n2_ n3_;clear hb hbox hg)|((with_reducible refine gate_dst (N:=3) rfl ?_);(try (refine gate_guard (by rfl) ?_;dsimp only));refine box_event ?hg (N:=3) ?hd (cs:=#[.slice A1_0 l1_0.length c1_0,.slice A1_1 l1_1.length c1_1]) (t:=25) ?hr ?_;(case hd=>rfl);(case hg=>rfl);(case hr=>first|(go_simp;done)|(go_simp;rfl));intro gb200 hg w5 hbox hb;have n0_:=A_ (blk_below (g:=gb199) (o:=.cells #[.slice A0_0 l0_0.length c0_0,.slice A0_1 l0_1.length c0_1] 25 (0,0)) (by (with_reducible repeat (first|refine blk_drewN ?_ _|refine blk_drew ?_|refine blk_alloc ?_ _));exact BK199.out) hb);have n1_:=A_ (below_step (by repeat (first|(with_reducible first|exact HB.out|apply ba|apply bb|apply bc|refine below_set ?_ GE199.out)|exact HB.out)) hb);have n2_:=A_ (hbox);have n3_:=A_ ((by rw [hg];exact (below_size (by repeat (first|(with_reducible first|exact HB.out|apply ba|apply bb|apply bc|refine below_set ?_ GE199.out)|exact HB.out))) : w.heap.size ≤ gb200));have n4_:=A_ ((by rw [hg];exact (below_size (by repeat (first|(with_reducible first|exact HB.out|apply ba|apply bb|apply bc|refine below_set ?_ GE199.out)|exact HB.out))) : w.heap.size ≤ gb200));have n5_:=A_ ((by rw [hg];exact Nat.ne_of_lt (blk_lt (g:=gb199) (o:=.cells #[.slice A0_0 l0_0.length c0_0,.slice A0_1 l0_1.length c0_1] 25 (0,0)) (by (with_reducible repeat (first|refine blk_drewN ?_ _|refine blk_drew ?_|refine blk_alloc ?_ _));exact BK199.out)) : gb199≠gb200));have n6_:=A_ ((by rw [hg];exact Nat.ne_of_gt (blk_lt (g:=gb199) (o:=.cells #[.slice A0_0 l0_0.length c0_0,.slice A0_1 l0_1.length c0_1] 25 (0,0)) (by (with_reducible repeat (first|refine blk_drewN ?_ _|refine blk_drew ?_|refine blk_alloc ?_ _));exact BK199.out)) : gb200≠gb199));clear BK199;clear HB;have BK199:=n0_;have HB:=n1_;have BK200:=n2_;have GW200:=n3_;have GE200:=n4_;have NB199_200:=n5_;have NB200_199:=n6_;clear n0_ n1_ n2_ n3_ n4_ n5_ n6_;clear hb hbox hg));go_upto_region 1 with (first|((with_reducible refine gate_dst (N:=2) rfl ?_);(try (refine gate_guard (by rfl) ?_;dsimp only));refine box_event ?hg (N:=2) ?hd (cs:=#[.slice A0_0 l0_0.length c0_0,.slice A0_1 l0_1.length c0_1]) (t:=25) ?hr ?_;(case hd=>rfl);(case hg=>rfl);(case hr=>first|(go_simp;done)|(go_simp;rfl));intro gb199 hg w4 hbox hb;have n0_:=A_ (below_step (by repeat (first|(with_reducible first|exact HB.out|apply ba|apply bb|apply bc)|exact HB.out)) hb);have n1_:=A_ (hbox);have n2_:=A_ ((by rw [hg];exact (below_size (by repeat (first|(with_reducible first|exact HB.out|apply ba|apply bb|apply bc)|exact HB.out))) : w.heap.size ≤ gb199));have n3_:=A_ ((by rw [hg];exact (below_size (by repeat (first|(with_reducible first|exact HB.out|apply ba|apply bb|apply bc)|exact HB.out))) : w.heap.size ≤ gb199));clear HB;have HB:=n0_;have BK199:=n1_;have GW199:=n2_;have GE199:=n3_;clear n0_ n1_ n2_ n3_;clear hb hbox hg)|((with_reducible refine gate_dst (N:=3) rfl ?_);(try (refine gate_guard (by rfl) ?_;dsimp only));refine box_event ?hg (N:=3) ?hd (cs:=#[.slice A1_0 l1_0.length c1_0,.slice A1_1 l1_1.length c1_1]) (t:=25) ?hr ?_;(case hd=>rfl);(case hg=>rfl);(case hr=>first|(go_simp;done)|(go_simp;rfl));intro gb200 hg w5 hbox hb;have n0_:=A_ (blk_below (g:=gb199) (o:=.cells #[.slice A0_0 l0_0.length c0_0,.slice A0_1 l0_1.length c0_1] 25 (0,0)) (by (with_reducible repeat (first|refine blk_drewN ?_ _|refine blk_drew ?_|refine blk_alloc ?_ _));exact BK199.out) hb);have n1_:=A_ (below_step (by repeat (first|(with_reducible first|exact HB.out|apply ba|apply bb|apply bc|refine below_set ?_ GE199.out)|exact HB.out)) hb);have n2_:=A_ (hbox);have n3_:=A_ ((by rw [hg];exact (below_size (by repeat (first|(with_reducible first|exact HB.out|apply ba|apply bb|apply bc|refine below_set ?_ GE199.out)|exact HB.out))) : w.heap.size ≤ gb200));have n4_:=A_ ((by rw [hg];exact (below_size (by repeat (first|(with_reducible first|exact HB.out|apply ba|apply bb|apply bc|refine below_set ?_ GE199.out)|exact HB.out))) : w.heap.size ≤ gb200));have n5_:=A_ ((by rw [hg];exact Nat.ne_of_lt (blk_lt (g:=gb199) (o:=.cells #[.slice A0_0 l0_0.length c0_0,.slice A0_1 l0_1.length c0_1] 25 (0,0)) (by (with_reducible repeat (first|refine blk_drewN ?_ _|refine blk_drew ?_|refine blk_alloc ?_ _));exact BK199.out)) : gb199≠gb200));have n6_:=A_ ((by rw [hg];exact Nat.ne_of_gt (blk_lt (g:=gb199) (o:=.cells #[.slice A0_0 l0_0.length c0_0,.slice A0_1 l0_1.length c0_1] 25 (0,0)) (by (with_reducible repeat (first|refine blk_drewN ?_ _|refine blk_drew ?_|refine blk_alloc ?_ _));exact BK199.out)) : gb200≠gb199));clear BK199;clear HB;have BK199:=n0_;have HB:=n1_;have BK200:=n2_;have GW200:=n3_;have GE200:=n4_;have NB199_200:=n5_;have NB200_199:=n6_;clear n0_ n1_ n2_ n3_ n4_ n5_ n6_;clear hb hbox hg)))
 (try simp only [Act.put,List.setIfInBounds_toArray,List.set_cons_zero,List.set_cons_succ])
 go_cut [22] (fun v22 wc=>∃ (kq : Nat) (x22_2 : Bool),v22 = .bool x22_2∧Aside0 (shapesearchref24_Same.j0 kq x22_2 l0_0 l0_1 l1_0 l1_1 = some r)∧Aside0 (kq ≤ k)∧Aside0 (wc.heap[gb199]? = some (.cells #[(.slice A0_0 l0_0.length c0_0),(.slice A0_1 l0_1.length c0_1)] 25 (0,0)))∧Aside0 (wc.heap[gb200]? = some (.cells #[(.slice A1_0 l1_0.length c1_0),(.slice A1_1 l1_1.length c1_1)] 25 (0,0)))∧Aside0 (Below w.heap.size w wc))
 case first =>
  have H:=HC3.out
  clear HC3
  by_cases c6 : (l0_0.length : Int) = (l1_0.length : Int)
  ·
   rw [if_pos c6] at H
   have c6b0 : ((l0_0.length : Int) == (l1_0.length : Int)) = true:=beq_iff_eq.mpr c6
   have c6b1 : ((l0_0.length : Int) != (l1_0.length : Int)) = false:=bne_eq_false_iff_eq.mpr c6
   have c6b2 : (l0_0.length == l1_0.length) = true:=by first|simpa using c6|(simp at c6 ⊢;omega)
   clear c6
   (first|rw [c6b0]|(simp only [i64_w,i32_w];rw [c6b0])|skip)
   have H':=A_ H
   clear H
   have hnb7:=NB199_200.out
   have hnc7:=NB200_199.out
   have hcz8_0 : w5.cell? ⟨gb199,0,none⟩ = some (.slice A0_0 l0_0.length c0_0):=(blk_cell BK199.out 0).trans rfl
   have hcz8_1 : w5.cell? ⟨gb199,1,none⟩ = some (.slice A0_1 l0_1.length c0_1):=(blk_cell BK199.out 1).trans rfl
   have hfz8_0:=blk_frozen BK199.out 0
   have hfz8_1:=blk_frozen BK199.out 1
   have hcz9_0 : w5.cell? ⟨gb200,0,none⟩ = some (.slice A1_0 l1_0.length c1_0):=(blk_cell BK200.out 0).trans rfl
   have hcz9_1 : w5.cell? ⟨gb200,1,none⟩ = some (.slice A1_1 l1_1.length c1_1):=(blk_cell BK200.out 1).trans rfl
   have hfz9_0:=blk_frozen BK200.out 0
   have hfz9_1:=blk_frozen BK200.out 1
   go_wp2
   repeat (go_quiet (fail);try go_wp2)
   go_meet
   case rel=>exact ⟨_,(((l0_1.length : Int) != (l1_1.length : Int))),(by first|rfl|(simp;done)|(simp [*];done)),H',⟨by first|omega|exact Nat.le_refl _⟩,⟨by (with_reducible repeat (first|refine blk_drewN ?_ _|refine blk_drew ?_|refine blk_alloc ?_ _));exact BK199.out⟩,⟨by (with_reducible repeat (first|refine blk_drewN ?_ _|refine blk_drew ?_|refine blk_alloc ?_ _));exact BK200.out⟩,⟨by repeat (first|(with_reducible first|exact HB.out|apply ba|apply bb|apply bc|refine below_set ?_ GE199.out|refine below_set ?_ GE200.out)|exact HB.out)⟩⟩
  ·
   rw [if_neg c6] at H
   have c6b0 : ((l0_0.length : Int) == (l1_0.length : Int)) = false:=beq_eq_false_iff_ne.mpr c6
   have c6b1 : ((l0_0.length : Int) != (l1_0.length : Int)) = true:=bne_iff_ne.mpr c6
   have c6b2 : (l0_0.length == l1_0.length) = false:=by first|simpa using c6|(simp at c6 ⊢;omega)
   (first|rw [c6b0]|(simp only [i64_w,i32_w];rw [c6b0])|skip)
   have H':=A_ H
   clear H
   have hnb10:=NB199_200.out
   have hnc10:=NB200_199.out
   have hcz11_0 : w5.cell? ⟨gb199,0,none⟩ = some (.slice A0_0 l0_0.length c0_0):=(blk_cell BK199.out 0).trans rfl
   have hcz11_1 : w5.cell? ⟨gb199,1,none⟩ = some (.slice A0_1 l0_1.length c0_1):=(blk_cell BK199.out 1).trans rfl
   have hfz11_0:=blk_frozen BK199.out 0
   have hfz11_1:=blk_frozen BK199.out 1
   have hcz12_0 : w5.cell? ⟨gb200,0,none⟩ = some (.slice A1_0 l1_0.length c1_0):=(blk_cell BK200.out 0).trans rfl
   have hcz12_1 : w5.cell? ⟨gb200,1,none⟩ = some (.slice A1_1 l1_1.length c1_1):=(blk_cell BK200.out 1).trans rfl
   have hfz12_0:=blk_frozen BK200.out 0
   have hfz12_1:=blk_frozen BK200.out 1
   go_wp2
   repeat (go_quiet (fail);try go_wp2)
   go_meet
   case rel=>exact ⟨_,(true),(by first|rfl|(simp;done)|(simp [*];done)),H',⟨by first|omega|exact Nat.le_refl _⟩,⟨by (with_reducible repeat (first|refine blk_drewN ?_ _|refine blk_drew ?_|refine blk_alloc ?_ _));exact BK199.out⟩,⟨by (with_reducible repeat (first|refine blk_drewN ?_ _|refine blk_drew ?_|refine blk_alloc ?_ _));exact BK200.out⟩,⟨by repeat (first|(with_reducible first|exact HB.out|apply ba|apply bb|apply bc|refine below_set ?_ GE199.out|refine below_set ?_ GE200.out)|exact HB.out)⟩⟩
 case rest =>
  clear HC3
  try clear c1
  try clear p2
  try clear c6
  try clear c6b0
  try clear c6b1
  try clear c6b2
  try clear c7
  try clear c9
  try clear c10
  try clear hcz11_0
  try clear hcz11_1
  try clear hcz12_0
  try clear hcz12_1
  try clear hcz8_0
  try clear hcz8_1
  try clear hcz9_0
  try clear hcz9_1
  try clear hfz11_0
  try clear hfz11_1
  try clear hfz12_0
  try clear hfz12_1
  try clear hfz8_0
  try clear hfz8_1
  try clear hfz9_0
  try clear hfz9_1
  obtain ⟨kq,x22_2,rfl,HA,HJ2,BK199,BK200,HB⟩:=hcut
  cases kq with
  | zero=>exact absurd HA.out (by simp [shapesearchref24_Same.j0])
  | succ kj2 =>
   have H:=HA.out
   clear HA
   simp only [shapesearchref24_Same.j0] at H
   by_cases c13 : x22_2 = true
   ·
    subst c13
    have H1 : (some false) = some r:=by rw [if_pos rfl] at H;exact H
    clear H
    have H:=H1
    clear H1
    obtain rfl:=Option.some.inj H
    go_wp2
    repeat (go_quiet (fail);try go_wp2)
    go_ret
    exact ⟨by first|rfl|(simp [errW_none,errW_some] <;> rfl)|(simp [*,errW_none,errW_some] <;> rfl),by repeat (first|(with_reducible first|exact HB.out|apply ba|apply bb|apply bc|refine below_set ?_ GE199.out|refine below_set ?_ GE200.out)|exact HB.out)⟩
   ·
    replace c13:=Bool.eq_false_iff.mpr c13
    subst c13
    have H1 : (shapesearchref24_Same.l0 kj2 0 l0_0 l0_1 l1_0 l1_1) = some r:=by rw [if_neg (show ¬ (false = true) by decide)] at H;exact H
    clear H
    have H:=H1
    clear H1
    have H':=A_ H
    clear H
    go_wp2
    repeat (go_quiet (fail);try go_wp2)
    go_loopg [5] kj2 (fun kq v5 w'=>∃ (x5_2 : Int),v5 = .int .i64 x5_2∧Aside0 (shapesearchref24_Same.l0 kq x5_2 l0_0 l0_1 l1_0 l1_1 = some r)∧Aside0 (kq ≤ kj2)∧Aside0 (w'.heap[gb199]? = some (.cells #[(.slice A0_0 l0_0.length c0_0),(.slice A0_1 l0_1.length c0_1)] 25 (0,0)))∧Aside0 (w'.heap[gb200]? = some (.cells #[(.slice A1_0 l1_0.length c1_0),(.slice A1_1 l1_1.length c1_1)] 25 (0,0)))∧Aside0 (Below w.heap.size w w'))
    case atStart=>exact ⟨(0),(by first|rfl|(simp;done)|(simp [*];done)),H',⟨Nat.le_refl _⟩,⟨by (with_reducible repeat (first|refine blk_drewN ?_ _|refine blk_drew ?_|refine blk_alloc ?_ _));exact BK199.out⟩,⟨by (with_reducible repeat (first|refine blk_drewN ?_ _|refine blk_drew ?_|refine blk_alloc ?_ _));exact BK200.out⟩,⟨by repeat (first|(with_reducible first|exact HB.out|apply ba|apply bb|apply bc|refine below_set ?_ GE199.out|refine below_set ?_ GE200.out)|exact HB.out)⟩⟩
    case round =>
     clear H'
     try clear c1
     try clear p2
     try clear c6
     try clear c6b0
     try clear c6b1
     try clear c6b2
     try clear c7
     try clear c9
     try clear c10
     try clear c13
     try clear hcz11_0
     try clear hcz11_1
     try clear hcz12_0
     try clear hcz12_1
     try clear hcz8_0
     try clear hcz8_1
     try clear hcz9_0
     try clear hcz9_1
     try clear hfz11_0
     try clear hfz11_1
     try clear hfz12_0
     try clear hfz12_1
     try clear hfz8_0
     try clear hfz8_1
     try clear hfz9_0
     try clear hfz9_1
     try clear p2
     obtain ⟨x5_2,rfl,HA,HK2,BK199,BK200,HB⟩:=hrel
     cases gk with
     | zero=>exact absurd HA.out (by simp [shapesearchref24_Same.l0])
     | succ k2 =>
      have H:=HA.out
      clear HA
      simp only [shapesearchref24_Same.l0] at H
      by_cases c14 : x5_2 < (l0_0.length : Int)
      ·
       rw [if_pos c14] at H
       have c14b0 : decide (x5_2 < (l0_0.length : Int)) = true:=decide_eq_true c14
       clear c14
       by_cases c15 : 0 ≤ x5_2
       ·
        rw [if_pos c15] at H
        have c15b0 : decide (0 ≤ x5_2) = true:=decide_eq_true c15
        clear c15
        by_cases c16 : x5_2 < (l1_0.length : Int)
        ·
         rw [if_pos c16] at H
         have c16b0 : decide (x5_2 < (l1_0.length : Int)) = true:=decide_eq_true c16
         clear c16
         by_cases c17 : (strOfNums (rd_L1 l0_0 x5_2)).toList = (strOfNums (rd_L1 l1_0 x5_2)).toList
         ·
          rw [if_pos c17] at H
          have c17b0 : ((strOfNums (rd_L1 l0_0 x5_2)).toList == (strOfNums (rd_L1 l1_0 x5_2)).toList) = true:=beq_iff_eq.mpr c17
          have c17b1 : ((strOfNums (rd_L1 l0_0 x5_2)).toList != (strOfNums (rd_L1 l1_0 x5_2)).toList) = false:=bne_eq_false_iff_eq.mpr c17
          clear c17
          have H':=A_ H
          clear H
          have hnb18:=NB199_200.out
          have hnc18:=NB200_199.out
          have hcz19_0 : wr.cell? ⟨gb199,0,none⟩ = some (.slice A0_0 l0_0.length c0_0):=(blk_cell BK199.out 0).trans rfl
          have hcz19_1 : wr.cell? ⟨gb199,1,none⟩ = some (.slice A0_1 l0_1.length c0_1):=(blk_cell BK199.out 1).trans rfl
          have hfz19_0:=blk_frozen BK199.out 0
          have hfz19_1:=blk_frozen BK199.out 1
          have p201 : 0 ≤ (x5_2 : Int):=of_decide_eq_true (by first|(with_reducible assumption)|assumption)
          have q201 : x5_2 < (l0_0.length : Int):=of_decide_eq_true (by first|(with_reducible assumption)|assumption)
          obtain ⟨ad201,A201_0,c201_0,e201,hx201_0,hl201_0,hi201_0⟩:=at_L1 HR0_0.out x5_2 p201 q201
          cases e201
          replace hx201_0:=(HB.out.cell (World.block_lt_of_cell? w _ hx201_0)).trans hx201_0
          have HR201_0:=A_ hi201_0
          have HC201_0:=A_ hl201_0
          clear hi201_0 hl201_0
          replace p201:=eq_true p201
          replace q201:=eq_true q201
          have hcv20:=Kd.C_string (P:=Try.prog) (A:=A201_0) (c:=c201_0) Try.underlying26 Try.underlying5 Try.underlying9 (cl HR201_0.out HB.out)
          have hcv20q:=fun n_ : Nat=>Kd.C_string (P:=Try.prog) (A:=A201_0) (c:=c201_0) Try.underlying26 Try.underlying5 Try.underlying9 (Kd.C_drewN (cl HR201_0.out HB.out) n_)
          have hcz21_0 : wr.cell? ⟨gb200,0,none⟩ = some (.slice A1_0 l1_0.length c1_0):=(blk_cell BK200.out 0).trans rfl
          have hcz21_1 : wr.cell? ⟨gb200,1,none⟩ = some (.slice A1_1 l1_1.length c1_1):=(blk_cell BK200.out 1).trans rfl
          have hfz21_0:=blk_frozen BK200.out 0
          have hfz21_1:=blk_frozen BK200.out 1
          have p202 : 0 ≤ (x5_2 : Int):=of_decide_eq_true (by first|(with_reducible assumption)|assumption)
          have q202 : x5_2 < (l1_0.length : Int):=of_decide_eq_true (by first|(with_reducible assumption)|assumption)
          obtain ⟨ad202,A202_0,c202_0,e202,hx202_0,hl202_0,hi202_0⟩:=at_L1 HR1_0.out x5_2 p202 q202
          cases e202
          replace hx202_0:=(HB.out.cell (World.block_lt_of_cell? w _ hx202_0)).trans hx202_0
          have HR202_0:=A_ hi202_0
          have HC202_0:=A_ hl202_0
          clear hi202_0 hl202_0
          replace p202:=eq_true p202
          replace q202:=eq_true q202
          have hcv22:=Kd.C_string (P:=Try.prog) (A:=A202_0) (c:=c202_0) Try.underlying26 Try.underlying5 Try.underlying9 (cl HR202_0.out HB.out)
          have hcv22q:=fun n_ : Nat=>Kd.C_string (P:=Try.prog) (A:=A202_0) (c:=c202_0) Try.underlying26 Try.underlying5 Try.underlying9 (Kd.C_drewN (cl HR202_0.out HB.out) n_)
          go_wp2
          repeat (go_quiet (fail);try go_wp2)
          go_roundg k2
          case measure=>have:=HJ2.out;have:=HK2.out;omega
          case rel=>exact ⟨(wrap64 (x5_2 + 1)),(by first|rfl|(simp;done)|(simp [*];done)),H',⟨by have:=HJ2.out;have:=HK2.out;omega⟩,⟨by (with_reducible repeat (first|refine blk_drewN ?_ _|refine blk_drew ?_|refine blk_alloc ?_ _));exact BK199.out⟩,⟨by (with_reducible repeat (first|refine blk_drewN ?_ _|refine blk_drew ?_|refine blk_alloc ?_ _));exact BK200.out⟩,⟨by repeat (first|(with_reducible first|exact HB.out|apply ba|apply bb|apply bc|refine below_set ?_ GE199.out|refine below_set ?_ GE200.out)|exact HB.out)⟩⟩
         ·
          rw [if_neg c17] at H
          have c17b0 : ((strOfNums (rd_L1 l0_0 x5_2)).toList == (strOfNums (rd_L1 l1_0 x5_2)).toList) = false:=beq_eq_false_iff_ne.mpr c17
          have c17b1 : ((strOfNums (rd_L1 l0_0 x5_2)).toList != (strOfNums (rd_L1 l1_0 x5_2)).toList) = true:=bne_iff_ne.mpr c17
          obtain rfl:=Option.some.inj H
          have hnb23:=NB199_200.out
          have hnc23:=NB200_199.out
          have hcz24_0 : wr.cell? ⟨gb199,0,none⟩ = some (.slice A0_0 l0_0.length c0_0):=(blk_cell BK199.out 0).trans rfl
          have hcz24_1 : wr.cell? ⟨gb199,1,none⟩ = some (.slice A0_1 l0_1.length c0_1):=(blk_cell BK199.out 1).trans rfl
          have hfz24_0:=blk_frozen BK199.out 0
          have hfz24_1:=blk_frozen BK199.out 1
          have p201 : 0 ≤ (x5_2 : Int):=of_decide_eq_true (by first|(with_reducible assumption)|assumption)
          have q201 : x5_2 < (l0_0.length : Int):=of_decide_eq_true (by first|(with_reducible assumption)|assumption)
          obtain ⟨ad201,A201_0,c201_0,e201,hx201_0,hl201_0,hi201_0⟩:=at_L1 HR0_0.out x5_2 p201 q201
          cases e201
          replace hx201_0:=(HB.out.cell (World.block_lt_of_cell? w _ hx201_0)).trans hx201_0
          have HR201_0:=A_ hi201_0
          have HC201_0:=A_ hl201_0
          clear hi201_0 hl201_0
          replace p201:=eq_true p201
          replace q201:=eq_true q201
          have hcv25:=Kd.C_string (P:=Try.prog) (A:=A201_0) (c:=c201_0) Try.underlying26 Try.underlying5 Try.underlying9 (cl HR201_0.out HB.out)
          have hcv25q:=fun n_ : Nat=>Kd.C_string (P:=Try.prog) (A:=A201_0) (c:=c201_0) Try.underlying26 Try.underlying5 Try.underlying9 (Kd.C_drewN (cl HR201_0.out HB.out) n_)
          have hcz26_0 : wr.cell? ⟨gb200,0,none⟩ = some (.slice A1_0 l1_0.length c1_0):=(blk_cell BK200.out 0).trans rfl
          have hcz26_1 : wr.cell? ⟨gb200,1,none⟩ = some (.slice A1_1 l1_1.length c1_1):=(blk_cell BK200.out 1).trans rfl
          have hfz26_0:=blk_frozen BK200.out 0
          have hfz26_1:=blk_frozen BK200.out 1
          have p202 : 0 ≤ (x5_2 : Int):=of_decide_eq_true (by first|(with_reducible assumption)|assumption)
          have q202 : x5_2 < (l1_0.length : Int):=of_decide_eq_true (by first|(with_reducible assumption)|assumption)
          obtain ⟨ad202,A202_0,c202_0,e202,hx202_0,hl202_0,hi202_0⟩:=at_L1 HR1_0.out x5_2 p202 q202
          cases e202
          replace hx202_0:=(HB.out.cell (World.block_lt_of_cell? w _ hx202_0)).trans hx202_0
          have HR202_0:=A_ hi202_0
          have HC202_0:=A_ hl202_0
          clear hi202_0 hl202_0
          replace p202:=eq_true p202
          replace q202:=eq_true q202
          have hcv27:=Kd.C_string (P:=Try.prog) (A:=A202_0) (c:=c202_0) Try.underlying26 Try.underlying5 Try.underlying9 (cl HR202_0.out HB.out)
          have hcv27q:=fun n_ : Nat=>Kd.C_string (P:=Try.prog) (A:=A202_0) (c:=c202_0) Try.underlying26 Try.underlying5 Try.underlying9 (Kd.C_drewN (cl HR202_0.out HB.out) n_)
          go_wp2
          repeat (go_quiet (fail);try go_wp2)
          go_ret
          exact ⟨by first|rfl|(simp [errW_none,errW_some] <;> rfl)|(simp [*,errW_none,errW_some] <;> rfl),by repeat (first|(with_reducible first|exact HB.out|apply ba|apply bb|apply bc|refine below_set ?_ GE199.out|refine below_set ?_ GE200.out)|exact HB.out)⟩
        ·
         rw [if_neg c16] at H
         exact absurd H (by simp)
       ·
        rw [if_neg c15] at H
        exact absurd H (by simp)
      ·
       rw [if_neg c14] at H
       have c14b0 : decide (x5_2 < (l0_0.length : Int)) = false:=decide_eq_false c14
       clear c14
       have H':=A_ H
       clear H
       have hnb28:=NB199_200.out
       have hnc28:=NB200_199.out
       have hcz29_0 : wr.cell? ⟨gb199,0,none⟩ = some (.slice A0_0 l0_0.length c0_0):=(blk_cell BK199.out 0).trans rfl
       have hcz29_1 : wr.cell? ⟨gb199,1,none⟩ = some (.slice A0_1 l0_1.length c0_1):=(blk_cell BK199.out 1).trans rfl
       have hfz29_0:=blk_frozen BK199.out 0
       have hfz29_1:=blk_frozen BK199.out 1
       go_wp2
       repeat (go_quiet (fail);try go_wp2)
       go_loopg [6] k2 (fun kq v6 w'=>∃ (x6_3 : Int),v6 = .int .i64 x6_3∧Aside0 (shapesearchref24_Same.l1 kq x6_3 l0_0 l0_1 l1_0 l1_1 = some r)∧Aside0 (kq ≤ k2)∧Aside0 (w'.heap[gb199]? = some (.cells #[(.slice A0_0 l0_0.length c0_0),(.slice A0_1 l0_1.length c0_1)] 25 (0,0)))∧Aside0 (w'.heap[gb200]? = some (.cells #[(.slice A1_0 l1_0.length c1_0),(.slice A1_1 l1_1.length c1_1)] 25 (0,0)))∧Aside0 (Below w.heap.size w w'))
       case atStart=>exact ⟨(0),(by first|rfl|(simp;done)|(simp [*];done)),H',⟨Nat.le_refl _⟩,⟨by (with_reducible repeat (first|refine blk_drewN ?_ _|refine blk_drew ?_|refine blk_alloc ?_ _));exact BK199.out⟩,⟨by (with_reducible repeat (first|refine blk_drewN ?_ _|refine blk_drew ?_|refine blk_alloc ?_ _));exact BK200.out⟩,⟨by repeat (first|(with_reducible first|exact HB.out|apply ba|apply bb|apply bc|refine below_set ?_ GE199.out|refine below_set ?_ GE200.out)|exact HB.out)⟩⟩
       case round =>
        clear H'
        try clear c1
        try clear c2
        try clear p2
        try clear q2
        try clear hx2
        try clear hcv2
        try clear c6
        try clear c6b0
        try clear c6b1
        try clear c6b2
        try clear p6
        try clear c7
        try clear c9
        try clear c10
        try clear c13
        try clear c14
        try clear c14b0
        try clear c15
        try clear c15b0
        try clear c16
        try clear c16b0
        try clear c17
        try clear c17b0
        try clear c17b1
        try clear c18
        try clear c20
        try clear p20
        try clear q20
        try clear hx20
        try clear hcv20
        try clear hcv22
        try clear c23
        try clear hcv25
        try clear hcv27
        try clear c28
        try clear hcz11_0
        try clear hcz11_1
        try clear hcz12_0
        try clear hcz12_1
        try clear hcz19_0
        try clear hcz19_1
        try clear hcz21_0
        try clear hcz21_1
        try clear hcz24_0
        try clear hcz24_1
        try clear hcz26_0
        try clear hcz26_1
        try clear hcz29_0
        try clear hcz29_1
        try clear hcz8_0
        try clear hcz8_1
        try clear hcz9_0
        try clear hcz9_1
        try clear hfz11_0
        try clear hfz11_1
        try clear hfz12_0
        try clear hfz12_1
        try clear hfz19_0
        try clear hfz19_1
        try clear hfz21_0
        try clear hfz21_1
        try clear hfz24_0
        try clear hfz24_1
        try clear hfz26_0
        try clear hfz26_1
        try clear hfz29_0
        try clear hfz29_1
        try clear hfz8_0
        try clear hfz8_1
        try clear hfz9_0
        try clear hfz9_1
        try clear hx201_0
        try clear hx202_0
        try clear p2
        try clear p201
        try clear p202
        try clear q201
        try clear q202
        obtain ⟨x6_3,rfl,HA,HK3,BK199,BK200,HB⟩:=hrel
        cases gk with
        | zero=>exact absurd HA.out (by simp [shapesearchref24_Same.l1])
        | succ k3 =>
         have H:=HA.out
         clear HA
         simp only [shapesearchref24_Same.l1] at H
         by_cases c30 : x6_3 < (l0_1.length : Int)
         ·
          rw [if_pos c30] at H
          have c30b0 : decide (x6_3 < (l0_1.length : Int)) = true:=decide_eq_true c30
          clear c30
          by_cases c31 : 0 ≤ x6_3
          ·
           rw [if_pos c31] at H
           have c31b0 : decide (0 ≤ x6_3) = true:=decide_eq_true c31
           clear c31
           by_cases c32 : x6_3 < (l1_1.length : Int)
           ·
            rw [if_pos c32] at H
            have c32b0 : decide (x6_3 < (l1_1.length : Int)) = true:=decide_eq_true c32
            clear c32
            by_cases c33 : ((rd_T42 l0_1 x6_3).f0) = ((rd_T42 l1_1 x6_3).f0)
            ·
             rw [if_pos c33] at H
             have c33b0 : (((rd_T42 l0_1 x6_3).f0) == ((rd_T42 l1_1 x6_3).f0)) = true:=beq_iff_eq.mpr c33
             have c33b1 : (((rd_T42 l0_1 x6_3).f0) != ((rd_T42 l1_1 x6_3).f0)) = false:=bne_eq_false_iff_eq.mpr c33
             clear c33
             by_cases c34 : (strOfNums ((rd_T42 l0_1 x6_3).f1)).toList = (strOfNums ((rd_T42 l1_1 x6_3).f1)).toList
             ·
              rw [if_pos c34] at H
              have c34b0 : ((strOfNums ((rd_T42 l0_1 x6_3).f1)).toList == (strOfNums ((rd_T42 l1_1 x6_3).f1)).toList) = true:=beq_iff_eq.mpr c34
              have c34b1 : ((strOfNums ((rd_T42 l0_1 x6_3).f1)).toList != (strOfNums ((rd_T42 l1_1 x6_3).f1)).toList) = false:=bne_eq_false_iff_eq.mpr c34
              clear c34
              have H':=A_ H
              clear H
              have hnb35:=NB199_200.out
              have hnc35:=NB200_199.out
              have hcz36_0 : wr.cell? ⟨gb199,0,none⟩ = some (.slice A0_0 l0_0.length c0_0):=(blk_cell BK199.out 0).trans rfl
              have hcz36_1 : wr.cell? ⟨gb199,1,none⟩ = some (.slice A0_1 l0_1.length c0_1):=(blk_cell BK199.out 1).trans rfl
              have hfz36_0:=blk_frozen BK199.out 0
              have hfz36_1:=blk_frozen BK199.out 1
              have p203 : 0 ≤ (x6_3 : Int):=of_decide_eq_true (by first|(with_reducible assumption)|assumption)
              have q203 : x6_3 < (l0_1.length : Int):=of_decide_eq_true (by first|(with_reducible assumption)|assumption)
              obtain ⟨ad203,A203_1,c203_1,e203,hx203_0,hx203_1,hl203_1,hi203_1⟩:=at_T42 HR0_1.out x6_3 p203 q203
              cases e203
              replace hx203_0:=(HB.out.cell (World.block_lt_of_cell? w _ hx203_0)).trans hx203_0
              replace hx203_1:=(HB.out.cell (World.block_lt_of_cell? w _ hx203_1)).trans hx203_1
              have HR203_1:=A_ hi203_1
              have HC203_1:=A_ hl203_1
              clear hi203_1 hl203_1
              replace p203:=eq_true p203
              replace q203:=eq_true q203
              have hcz37_0 : wr.cell? ⟨gb200,0,none⟩ = some (.slice A1_0 l1_0.length c1_0):=(blk_cell BK200.out 0).trans rfl
              have hcz37_1 : wr.cell? ⟨gb200,1,none⟩ = some (.slice A1_1 l1_1.length c1_1):=(blk_cell BK200.out 1).trans rfl
              have hfz37_0:=blk_frozen BK200.out 0
              have hfz37_1:=blk_frozen BK200.out 1
              have p204 : 0 ≤ (x6_3 : Int):=of_decide_eq_true (by first|(with_reducible assumption)|assumption)
              have q204 : x6_3 < (l1_1.length : Int):=of_decide_eq_true (by first|(with_reducible assumption)|assumption)
              obtain ⟨ad204,A204_1,c204_1,e204,hx204_0,hx204_1,hl204_1,hi204_1⟩:=at_T42 HR1_1.out x6_3 p204 q204
              cases e204
              replace hx204_0:=(HB.out.cell (World.block_lt_of_cell? w _ hx204_0)).trans hx204_0
              replace hx204_1:=(HB.out.cell (World.block_lt_of_cell? w _ hx204_1)).trans hx204_1
              have HR204_1:=A_ hi204_1
              have HC204_1:=A_ hl204_1
              clear hi204_1 hl204_1
              replace p204:=eq_true p204
              replace q204:=eq_true q204
              have p205 : 0 ≤ (x6_3 : Int):=of_decide_eq_true (by first|(with_reducible assumption)|assumption)
              have q205 : x6_3 < (l0_1.length : Int):=of_decide_eq_true (by first|(with_reducible assumption)|assumption)
              obtain ⟨ad205,A205_1,c205_1,e205,hx205_0,hx205_1,hl205_1,hi205_1⟩:=at_T42 HR0_1.out x6_3 p205 q205
              obtain rfl : ad203 = ad205:=(by injection e205)
              replace hx205_0:=(HB.out.cell (World.block_lt_of_cell? w _ hx205_0)).trans hx205_0
              replace hx205_1:=(HB.out.cell (World.block_lt_of_cell? w _ hx205_1)).trans hx205_1
              have HR205_1:=A_ hi205_1
              have HC205_1:=A_ hl205_1
              clear hi205_1 hl205_1
              replace p205:=eq_true p205
              replace q205:=eq_true q205
              have ea_:=Option.some.inj (hx203_1.symm.trans hx205_1)
              injection ea_ with ea_ en_ ec_
              subst ea_
              subst ec_
              clear en_
              have hcv38:=Kd.C_string (P:=Try.prog) (A:=A203_1) (c:=c203_1) Try.underlying26 Try.underlying5 Try.underlying9 (cl HR205_1.out HB.out)
              have hcv38q:=fun n_ : Nat=>Kd.C_string (P:=Try.prog) (A:=A203_1) (c:=c203_1) Try.underlying26 Try.underlying5 Try.underlying9 (Kd.C_drewN (cl HR205_1.out HB.out) n_)
              have p206 : 0 ≤ (x6_3 : Int):=of_decide_eq_true (by first|(with_reducible assumption)|assumption)
              have q206 : x6_3 < (l1_1.length : Int):=of_decide_eq_true (by first|(with_reducible assumption)|assumption)
              obtain ⟨ad206,A206_1,c206_1,e206,hx206_0,hx206_1,hl206_1,hi206_1⟩:=at_T42 HR1_1.out x6_3 p206 q206
              obtain rfl : ad204 = ad206:=(by injection e206)
              replace hx206_0:=(HB.out.cell (World.block_lt_of_cell? w _ hx206_0)).trans hx206_0
              replace hx206_1:=(HB.out.cell (World.block_lt_of_cell? w _ hx206_1)).trans hx206_1
              have HR206_1:=A_ hi206_1
              have HC206_1:=A_ hl206_1
              clear hi206_1 hl206_1
              replace p206:=eq_true p206
              replace q206:=eq_true q206
              have ea_:=Option.some.inj (hx204_1.symm.trans hx206_1)
              injection ea_ with ea_ en_ ec_
              subst ea_
              subst ec_
              clear en_
              have hcv39:=Kd.C_string (P:=Try.prog) (A:=A204_1) (c:=c204_1) Try.underlying26 Try.underlying5 Try.underlying9 (cl HR206_1.out HB.out)
              have hcv39q:=fun n_ : Nat=>Kd.C_string (P:=Try.prog) (A:=A204_1) (c:=c204_1) Try.underlying26 Try.underlying5 Try.underlying9 (Kd.C_drewN (cl HR206_1.out HB.out) n_)
              go_wp2
              repeat (go_quiet (fail);try go_wp2)
              go_roundg k3
              case measure=>have:=HJ2.out;have:=HK2.out;have:=HK3.out;omega
              case rel=>exact ⟨(wrap64 (x6_3 + 1)),(by first|rfl|(simp;done)|(simp [*];done)),H',⟨by have:=HJ2.out;have:=HK2.out;have:=HK3.out;omega⟩,⟨by (with_reducible repeat (first|refine blk_drewN ?_ _|refine blk_drew ?_|refine blk_alloc ?_ _));exact BK199.out⟩,⟨by (with_reducible repeat (first|refine blk_drewN ?_ _|refine blk_drew ?_|refine blk_alloc ?_ _));exact BK200.out⟩,⟨by repeat (first|(with_reducible first|exact HB.out|apply ba|apply bb|apply bc|refine below_set ?_ GE199.out|refine below_set ?_ GE200.out)|exact HB.out)⟩⟩
             ·
              rw [if_neg c34] at H
              have c34b0 : ((strOfNums ((rd_T42 l0_1 x6_3).f1)).toList == (strOfNums ((rd_T42 l1_1 x6_3).f1)).toList) = false:=beq_eq_false_iff_ne.mpr c34
              have c34b1 : ((strOfNums ((rd_T42 l0_1 x6_3).f1)).toList != (strOfNums ((rd_T42 l1_1 x6_3).f1)).toList) = true:=bne_iff_ne.mpr c34
              obtain rfl:=Option.some.inj H
              have hnb40:=NB199_200.out
              have hnc40:=NB200_199.out
              have hcz41_0 : wr.cell? ⟨gb199,0,none⟩ = some (.slice A0_0 l0_0.length c0_0):=(blk_cell BK199.out 0).trans rfl
              have hcz41_1 : wr.cell? ⟨gb199,1,none⟩ = some (.slice A0_1 l0_1.length c0_1):=(blk_cell BK199.out 1).trans rfl
              have hfz41_0:=blk_frozen BK199.out 0
              have hfz41_1:=blk_frozen BK199.out 1
              have p203 : 0 ≤ (x6_3 : Int):=of_decide_eq_true (by first|(with_reducible assumption)|assumption)
              have q203 : x6_3 < (l0_1.length : Int):=of_decide_eq_true (by first|(with_reducible assumption)|assumption)
              obtain ⟨ad203,A203_1,c203_1,e203,hx203_0,hx203_1,hl203_1,hi203_1⟩:=at_T42 HR0_1.out x6_3 p203 q203
              cases e203
              replace hx203_0:=(HB.out.cell (World.block_lt_of_cell? w _ hx203_0)).trans hx203_0
              replace hx203_1:=(HB.out.cell (World.block_lt_of_cell? w _ hx203_1)).trans hx203_1
              have HR203_1:=A_ hi203_1
              have HC203_1:=A_ hl203_1
              clear hi203_1 hl203_1
              replace p203:=eq_true p203
              replace q203:=eq_true q203
              have hcz42_0 : wr.cell? ⟨gb200,0,none⟩ = some (.slice A1_0 l1_0.length c1_0):=(blk_cell BK200.out 0).trans rfl
              have hcz42_1 : wr.cell? ⟨gb200,1,none⟩ = some (.slice A1_1 l1_1.length c1_1):=(blk_cell BK200.out 1).trans rfl
              have hfz42_0:=blk_frozen BK200.out 0
              have hfz42_1:=blk_frozen BK200.out 1
              have p204 : 0 ≤ (x6_3 : Int):=of_decide_eq_true (by first|(with_reducible assumption)|assumption)
              have q204 : x6_3 < (l1_1.length : Int):=of_decide_eq_true (by first|(with_reducible assumption)|assumption)
              obtain ⟨ad204,A204_1,c204_1,e204,hx204_0,hx204_1,hl204_1,hi204_1⟩:=at_T42 HR1_1.out x6_3 p204 q204
              cases e204
              replace hx204_0:=(HB.out.cell (World.block_lt_of_cell? w _ hx204_0)).trans hx204_0
              replace hx204_1:=(HB.out.cell (World.block_lt_of_cell? w _ hx204_1)).trans hx204_1
              have HR204_1:=A_ hi204_1
              have HC204_1:=A_ hl204_1
              clear hi204_1 hl204_1
              replace p204:=eq_true p204
              replace q204:=eq_true q204
              have p205 : 0 ≤ (x6_3 : Int):=of_decide_eq_true (by first|(with_reducible assumption)|assumption)
              have q205 : x6_3 < (l0_1.length : Int):=of_decide_eq_true (by first|(with_reducible assumption)|assumption)
              obtain ⟨ad205,A205_1,c205_1,e205,hx205_0,hx205_1,hl205_1,hi205_1⟩:=at_T42 HR0_1.out x6_3 p205 q205
              obtain rfl : ad203 = ad205:=(by injection e205)
              replace hx205_0:=(HB.out.cell (World.block_lt_of_cell? w _ hx205_0)).trans hx205_0
              replace hx205_1:=(HB.out.cell (World.block_lt_of_cell? w _ hx205_1)).trans hx205_1
              have HR205_1:=A_ hi205_1
              have HC205_1:=A_ hl205_1
              clear hi205_1 hl205_1
              replace p205:=eq_true p205
              replace q205:=eq_true q205
              have ea_:=Option.some.inj (hx203_1.symm.trans hx205_1)
              injection ea_ with ea_ en_ ec_
              subst ea_
              subst ec_
              clear en_
              have hcv43:=Kd.C_string (P:=Try.prog) (A:=A203_1) (c:=c203_1) Try.underlying26 Try.underlying5 Try.underlying9 (cl HR205_1.out HB.out)
              have hcv43q:=fun n_ : Nat=>Kd.C_string (P:=Try.prog) (A:=A203_1) (c:=c203_1) Try.underlying26 Try.underlying5 Try.underlying9 (Kd.C_drewN (cl HR205_1.out HB.out) n_)
              have p206 : 0 ≤ (x6_3 : Int):=of_decide_eq_true (by first|(with_reducible assumption)|assumption)
              have q206 : x6_3 < (l1_1.length : Int):=of_decide_eq_true (by first|(with_reducible assumption)|assumption)
              obtain ⟨ad206,A206_1,c206_1,e206,hx206_0,hx206_1,hl206_1,hi206_1⟩:=at_T42 HR1_1.out x6_3 p206 q206
              obtain rfl : ad204 = ad206:=(by injection e206)
              replace hx206_0:=(HB.out.cell (World.block_lt_of_cell? w _ hx206_0)).trans hx206_0
              replace hx206_1:=(HB.out.cell (World.block_lt_of_cell? w _ hx206_1)).trans hx206_1
              have HR206_1:=A_ hi206_1
              have HC206_1:=A_ hl206_1
              clear hi206_1 hl206_1
              replace p206:=eq_true p206
              replace q206:=eq_true q206
              have ea_:=Option.some.inj (hx204_1.symm.trans hx206_1)
              injection ea_ with ea_ en_ ec_
              subst ea_
              subst ec_
              clear en_
              have hcv44:=Kd.C_string (P:=Try.prog) (A:=A204_1) (c:=c204_1) Try.underlying26 Try.underlying5 Try.underlying9 (cl HR206_1.out HB.out)
              have hcv44q:=fun n_ : Nat=>Kd.C_string (P:=Try.prog) (A:=A204_1) (c:=c204_1) Try.underlying26 Try.underlying5 Try.underlying9 (Kd.C_drewN (cl HR206_1.out HB.out) n_)
              go_wp2
              repeat (go_quiet (fail);try go_wp2)
              go_ret
              exact ⟨by first|rfl|(simp [errW_none,errW_some] <;> rfl)|(simp [*,errW_none,errW_some] <;> rfl),by repeat (first|(with_reducible first|exact HB.out|apply ba|apply bb|apply bc|refine below_set ?_ GE199.out|refine below_set ?_ GE200.out)|exact HB.out)⟩
            ·
             rw [if_neg c33] at H
             have c33b0 : (((rd_T42 l0_1 x6_3).f0) == ((rd_T42 l1_1 x6_3).f0)) = false:=beq_eq_false_iff_ne.mpr c33
             have c33b1 : (((rd_T42 l0_1 x6_3).f0) != ((rd_T42 l1_1 x6_3).f0)) = true:=bne_iff_ne.mpr c33
             obtain rfl:=Option.some.inj H
             have hnb45:=NB199_200.out
             have hnc45:=NB200_199.out
             have hcz46_0 : wr.cell? ⟨gb199,0,none⟩ = some (.slice A0_0 l0_0.length c0_0):=(blk_cell BK199.out 0).trans rfl
             have hcz46_1 : wr.cell? ⟨gb199,1,none⟩ = some (.slice A0_1 l0_1.length c0_1):=(blk_cell BK199.out 1).trans rfl
             have hfz46_0:=blk_frozen BK199.out 0
             have hfz46_1:=blk_frozen BK199.out 1
             have p203 : 0 ≤ (x6_3 : Int):=of_decide_eq_true (by first|(with_reducible assumption)|assumption)
             have q203 : x6_3 < (l0_1.length : Int):=of_decide_eq_true (by first|(with_reducible assumption)|assumption)
             obtain ⟨ad203,A203_1,c203_1,e203,hx203_0,hx203_1,hl203_1,hi203_1⟩:=at_T42 HR0_1.out x6_3 p203 q203
             cases e203
             replace hx203_0:=(HB.out.cell (World.block_lt_of_cell? w _ hx203_0)).trans hx203_0
             replace hx203_1:=(HB.out.cell (World.block_lt_of_cell? w _ hx203_1)).trans hx203_1
             have HR203_1:=A_ hi203_1
             have HC203_1:=A_ hl203_1
             clear hi203_1 hl203_1
             replace p203:=eq_true p203
             replace q203:=eq_true q203
             have hcz47_0 : wr.cell? ⟨gb200,0,none⟩ = some (.slice A1_0 l1_0.length c1_0):=(blk_cell BK200.out 0).trans rfl
             have hcz47_1 : wr.cell? ⟨gb200,1,none⟩ = some (.slice A1_1 l1_1.length c1_1):=(blk_cell BK200.out 1).trans rfl
             have hfz47_0:=blk_frozen BK200.out 0
             have hfz47_1:=blk_frozen BK200.out 1
             have p204 : 0 ≤ (x6_3 : Int):=of_decide_eq_true (by first|(with_reducible assumption)|assumption)
             have q204 : x6_3 < (l1_1.length : Int):=of_decide_eq_true (by first|(with_reducible assumption)|assumption)
             obtain ⟨ad204,A204_1,c204_1,e204,hx204_0,hx204_1,hl204_1,hi204_1⟩:=at_T42 HR1_1.out x6_3 p204 q204
             cases e204
             replace hx204_0:=(HB.out.cell (World.block_lt_of_cell? w _ hx204_0)).trans hx204_0
             replace hx204_1:=(HB.out.cell (World.block_lt_of_cell? w _ hx204_1)).trans hx204_1
             have HR204_1:=A_ hi204_1
             have HC204_1:=A_ hl204_1
             clear hi204_1 hl204_1
             replace p204:=eq_true p204
             replace q204:=eq_true q204
             go_wp2
             repeat (go_quiet (fail);try go_wp2)
             go_ret
             exact ⟨by first|rfl|(simp [errW_none,errW_some] <;> rfl)|(simp [*,errW_none,errW_some] <;> rfl),by repeat (first|(with_reducible first|exact HB.out|apply ba|apply bb|apply bc|refine below_set ?_ GE199.out|refine below_set ?_ GE200.out)|exact HB.out)⟩
           ·
            rw [if_neg c32] at H
            exact absurd H (by simp)
          ·
           rw [if_neg c31] at H
           exact absurd H (by simp)
         ·
          rw [if_neg c30] at H
          have c30b0 : decide (x6_3 < (l0_1.length : Int)) = false:=decide_eq_false c30
          clear c30
          obtain rfl:=Option.some.inj H
          have hnb48:=NB199_200.out
          have hnc48:=NB200_199.out
          have hcz49_0 : wr.cell? ⟨gb199,0,none⟩ = some (.slice A0_0 l0_0.length c0_0):=(blk_cell BK199.out 0).trans rfl
          have hcz49_1 : wr.cell? ⟨gb199,1,none⟩ = some (.slice A0_1 l0_1.length c0_1):=(blk_cell BK199.out 1).trans rfl
          have hfz49_0:=blk_frozen BK199.out 0
          have hfz49_1:=blk_frozen BK199.out 1
          go_wp2
          repeat (go_quiet (fail);try go_wp2)
          go_ret
          exact ⟨by first|rfl|(simp [errW_none,errW_some] <;> rfl)|(simp [*,errW_none,errW_some] <;> rfl),by repeat (first|(with_reducible first|exact HB.out|apply ba|apply bb|apply bc|refine below_set ?_ GE199.out|refine below_set ?_ GE200.out)|exact HB.out)⟩

end Go.Proofs.Ythpiafbloebpjaa.PDeviceSteps
