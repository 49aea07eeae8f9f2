/- This file proves, function by function, what the Go functions that one law uses compute; most of it was printed by a program (wip/tools of this session, over the kit's print). -/
import Derived.Test.YtmkjmplkokfoiaaPEuclidAnswersx0
import Derived.Test.YtmkjmplkokfoiaaPEuclidAnswersx3
import Derived.Test.YtmkjmplkokfoiaaPEuclidAnswersx4
namespace Go.Proofs.Ytmkjmplkokfoiaa.PEuclidAnswers
open Go.RowKit Go.Proofs.YtmkjmplkokfoiaaW.PrintWords Go.Proofs.YtmkjmplkokfoiaaW.PrintLast Go.Proofs.YtmkjmplkokfoiaaW.PrintMore
attribute [local go_sem] max2_int min2_int max_two min_two max_three min_three max_four min_four   -- for this text's walks alone
set_option linter.unusedVariables false
set_option linter.unusedSimpArgs false

/-! ### ratio_Make: function 34 -/
def ratio_Make.j0 : Nat → Int → Int → Bool → Option (Int × Int × Int)
 | 0,_,_,_=>none
 | k + 1,x0,x1,x13=>if x13 = true then (some (0,0,1)) else ((ratio_divisor.f k x0 x1).bind fun t221=>(if t221 = 0 then (none) else ((ratio_within.f (wrap64 (Int.tdiv x0 t221)) (wrap64 (Int.tdiv x1 t221))).bind fun t223=>(if t223 = true then (some (wrap64 (Int.tdiv x0 t221),wrap64 (Int.tdiv x1 t221),0)) else (some (0,0,1))))))
def ratio_Make.f (k : Nat) (a0 : Int) (a1 : Int) : Option (Int × Int × Int):=if a0 < 0 then (ratio_Make.j0 k a0 a1 true) else (ratio_Make.j0 k a0 a1 (decide (a1 < 1)))
theorem ratio_Make.mono_l : ∀ k,(∀ y0 y1 y2,LeO (ratio_Make.j0 k y0 y1 y2) (ratio_Make.j0 (k + 1) y0 y1 y2))
 | 0=>fun _ _ _ r h=>by simp [ratio_Make.j0] at h
 | k + 1=>by
  have ih0:=ratio_Make.mono_l k
  ·
   intro y0 y1 y2
   unfold ratio_Make.j0
   repeat' first
   | (with_reducible exact ih0 _ _ _)
   | (with_reducible exact ratio_divisor.mono _ _ _)
   | (with_reducible exact LeO.refl _)
   | (with_reducible exact LeO.none _)
   | (with_reducible refine LeO.ite ?_ ?_)
   | (with_reducible refine LeO.bind ?_ (fun _=>?_))
   | exact ih0 _ _ _
   | exact ratio_divisor.mono _ _ _
   | exact LeO.none _
   | refine LeO.ite ?_ ?_
   | refine LeO.bind ?_ (fun _=>?_)
theorem ratio_Make.mono : ∀ a0 a1 k,LeO (ratio_Make.f k a0 a1) (ratio_Make.f (k + 1) a0 a1):=by
 intro a0 a1 k
 have ih0:=ratio_Make.mono_l k
 unfold ratio_Make.f
 repeat' first
   | (with_reducible exact ih0 _ _ _)
   | (with_reducible exact ratio_divisor.mono _ _ _)
   | (with_reducible exact LeO.refl _)
   | (with_reducible exact LeO.none _)
   | (with_reducible refine LeO.ite ?_ ?_)
   | (with_reducible refine LeO.bind ?_ (fun _=>?_))
   | exact ih0 _ _ _
   | exact ratio_divisor.mono _ _ _
   | exact LeO.none _
   | refine LeO.ite ?_ ?_
   | refine LeO.bind ?_ (fun _=>?_)
def ratio_Make.T4 : Bool × List (List Nat × List Nat):=(true,[([],[]),([],[]),([0,1],[0,1]),([],[]),([],[]),([3,4],[3,4]),([2,5],[2,5]),([],[]),([7,6,0,1,2,3,4,5,6,7],[6,7])])
def ratio_Make.B4 : List Nat:=[0,0,3,0,0,24,63,0,255]
theorem ratio_Make.tab4 : rtab .any (opsOf Try.f34 4) = ratio_Make.T4:=by kernel_rfl
theorem ratio_Make.bits4 : waitsOk ratio_Make.T4.2 ratio_Make.B4 = true:=by kernel_rfl
set_option maxHeartbeats 8000000 in
set_option maxRecDepth 100000 in
theorem ratio_Make.calls (k : Nat) (a0 : Int) (a1 : Int) (r1 : Int) (r2 : Int) (r3 : Int) (w : World) (h : ratio_Make.f k a0 a1 = some (r1,r2,r3)) :
  Calls Try.prog 34 #[.int .i64 a0,.int .i64 a1] w fun e w'=>e = .returned (.tuple #[.agg #[.int .i64 r1,.int .i64 r2],.int .i64 r3])∧Below w.heap.size w w':=by
 have hu37:=Try.underlying37
 have HB:=A_ (Below.refl w.heap.size w)
 have H : (if a0 < 0 then (ratio_Make.j0 k a0 a1 true) else (ratio_Make.j0 k a0 a1 (decide (a1 < 1)))) = some (r1,r2,r3):=h
 clear h
 have HC3:=A_ H
 clear H
 go_enter Try.func34,Try.ntmps34
 go_upto_region 1 with (first|((with_reducible refine gate_dst (N:=4) rfl ?_);refine box_event ?hg (N:=4) ?hd (cs:=#[.int .i64 0,.int .i64 0]) (t:=37) ?hr ?_;(case hd=>rfl);(case hg=>rfl);(case hr=>first|(go_simp;done)|(go_simp;rfl));intro gb220 hg w4 hbox hb;have n0_:=A_ (below_step (by repeat (first|(with_reducible first|exact HB.out|apply ba|apply bb|apply bc)|exact HB.out)) hb);have n1_:=A_ (hbox);have n2_:=A_ ((by rw [hg];exact (below_size (by repeat (first|(with_reducible first|exact HB.out|apply ba|apply bb|apply bc)|exact HB.out))) : w.heap.size ≤ gb220));have n3_:=A_ ((by rw [hg];exact (below_size (by repeat (first|(with_reducible first|exact HB.out|apply ba|apply bb|apply bc)|exact HB.out))) : w.heap.size ≤ gb220));clear HB;have HB:=n0_;have BK220:=n1_;have GW220:=n2_;have GE220:=n3_;clear n0_ n1_ n2_ n3_;clear hb hbox hg))
 (try simp only [Act.put,List.setIfInBounds_toArray,List.set_cons_zero,List.set_cons_succ])
 go_cut [13] (fun v13 wc=>∃ (kq : Nat) (x13_2 : Bool),v13 = .bool x13_2∧Aside0 (ratio_Make.j0 kq a0 a1 x13_2 = some (r1,r2,r3))∧Aside0 (kq ≤ k)∧Aside0 (wc.heap[gb220]? = some (.cells #[.int .i64 0,.int .i64 0] 37 (0,0)))∧Aside0 (Below w.heap.size w wc))
 case first =>
  have H:=HC3.out
  clear HC3
  by_cases c5 : a0 < 0
  ·
   rw [if_pos c5] at H
   have c5b0 : decide (a0 < 0) = true:=decide_eq_true c5
   clear c5
   (first|rw [c5b0]|(simp only [i64_w,i32_w];rw [c5b0])|skip)
   have H':=A_ H
   clear H
   go_wp2
   go_meet
   case rel=>exact ⟨_,(true),(by first|rfl|(simp;done)|(simp [*];done)),H',⟨by first|omega|exact Nat.le_refl _⟩,⟨by (with_reducible repeat (first|refine blk_drewN ?_ _|refine blk_drew ?_|refine blk_alloc ?_ _));exact BK220.out⟩,⟨by repeat (first|(with_reducible first|exact HB.out|apply ba|apply bb|apply bc|refine below_set ?_ GE220.out)|exact HB.out)⟩⟩
  ·
   rw [if_neg c5] at H
   have c5b0 : decide (a0 < 0) = false:=decide_eq_false c5
   clear c5
   (first|rw [c5b0]|(simp only [i64_w,i32_w];rw [c5b0])|skip)
   have H':=A_ H
   clear H
   go_wp2
   go_meet
   case rel=>exact ⟨_,(decide (a1 < 1)),(by first|rfl|(simp;done)|(simp [*];done)),H',⟨by first|omega|exact Nat.le_refl _⟩,⟨by (with_reducible repeat (first|refine blk_drewN ?_ _|refine blk_drew ?_|refine blk_alloc ?_ _));exact BK220.out⟩,⟨by repeat (first|(with_reducible first|exact HB.out|apply ba|apply bb|apply bc|refine below_set ?_ GE220.out)|exact HB.out)⟩⟩
 case rest =>
  clear HC3
  try clear p2
  try clear c3
  try clear c5
  try clear c5b0
  obtain ⟨kq,x13_2,rfl,HA,HJ2,BK220,HB⟩:=hcut
  cases kq with
  | zero=>exact absurd HA.out (by simp [ratio_Make.j0])
  | succ kj2 =>
   have H:=HA.out
   clear HA
   simp only [ratio_Make.j0] at H
   by_cases c6 : x13_2 = true
   ·
    subst c6
    have H1 : (some (0,0,1)) = some (r1,r2,r3):=by rw [if_pos rfl] at H;exact H
    clear H
    have H:=H1
    clear H1
    simp only [Option.some.injEq,Prod.mk.injEq] at H
    obtain ⟨rfl,rfl,rfl⟩:=H
    have hcz7_0 : wc.cell? ⟨gb220,0,none⟩ = some (.int .i64 0):=(blk_cell BK220.out 0).trans rfl
    have hcz7_1 : wc.cell? ⟨gb220,1,none⟩ = some (.int .i64 0):=(blk_cell BK220.out 1).trans rfl
    have hfz7_0:=blk_frozen BK220.out 0
    have hfz7_1:=blk_frozen BK220.out 1
    go_wp2
    refine bodyPost_ret (results_ct rfl _ _ gb220 37 #[.int .i64 0,.int .i64 0] (0,0) _ rfl (by (with_reducible repeat (first|refine blk_drewN ?_ _|refine blk_drew ?_|refine blk_alloc ?_ _));refine blk_put (cs:=#[.int .i64 0,.int .i64 0]) ?_ 1 _ rfl;(with_reducible repeat (first|refine blk_drewN ?_ _|refine blk_drew ?_|refine blk_alloc ?_ _));refine blk_put (cs:=#[.int .i64 0,.int .i64 0]) ?_ 0 _ rfl;(with_reducible repeat (first|refine blk_drewN ?_ _|refine blk_drew ?_|refine blk_alloc ?_ _));exact BK220.out) Try.underlying37 rfl (by kernel_rfl)) rfl ?_
    exact ⟨by first|rfl|(simp [errW_none,errW_some] <;> rfl)|(simp [*,errW_none,errW_some] <;> rfl),by repeat (first|(with_reducible first|exact HB.out|apply ba|apply bb|apply bc|refine below_set ?_ GE220.out)|exact HB.out)⟩
   ·
    replace c6:=Bool.eq_false_iff.mpr c6
    subst c6
    have H1 : ((ratio_divisor.f kj2 a0 a1).bind fun t221=>(if t221 = 0 then (none) else ((ratio_within.f (wrap64 (Int.tdiv a0 t221)) (wrap64 (Int.tdiv a1 t221))).bind fun t223=>(if t223 = true then (some (wrap64 (Int.tdiv a0 t221),wrap64 (Int.tdiv a1 t221),0)) else (some (0,0,1)))))) = some (r1,r2,r3):=by rw [if_neg (show ¬ (false = true) by decide)] at H;exact H
    clear H
    have H:=H1
    clear H1
    replace H:=Option.bind_eq_some_iff.mp H
    obtain ⟨t221,A80,H⟩:=H
    replace H : (if t221 = 0 then (none) else ((ratio_within.f (wrap64 (Int.tdiv a0 t221)) (wrap64 (Int.tdiv a1 t221))).bind fun t223=>(if t223 = true then (some (wrap64 (Int.tdiv a0 t221),wrap64 (Int.tdiv a1 t221),0)) else (some (0,0,1))))) = some (r1,r2,r3):=H
    have A8:=A_ A80
    clear A80
    by_cases c9 : t221 = 0
    ·
     rw [if_pos c9] at H
     exact absurd H (by simp)
    ·
     rw [if_neg c9] at H
     have c9b0 : (t221 == 0) = false:=beq_eq_false_iff_ne.mpr c9
     have c9b1 : (t221 != 0) = true:=bne_iff_ne.mpr c9
     replace H:=Option.bind_eq_some_iff.mp H
     obtain ⟨t223,A100,H⟩:=H
     replace H : (if t223 = true then (some (wrap64 (Int.tdiv a0 t221),wrap64 (Int.tdiv a1 t221),0)) else (some (0,0,1))) = some (r1,r2,r3):=H
     have A10:=A_ A100
     clear A100
     by_cases c11 : t223 = true
     ·
      subst c11
      have H1 : (some (wrap64 (Int.tdiv a0 t221),wrap64 (Int.tdiv a1 t221),0)) = some (r1,r2,r3):=by rw [if_pos rfl] at H;exact H
      clear H
      have H:=H1
      clear H1
      simp only [Option.some.injEq,Prod.mk.injEq] at H
      obtain ⟨rfl,rfl,rfl⟩:=H
      try go_wp2_with (first|((with_reducible refine gate_callee (f:=45) rfl ?_);refine goesL_ (some 17) rfl rfl Try.func45 (by kernel_rfl) rfl #[.int .i64 a0,.int .i64 a1] rfl (by (try simp only [List.map_toArray,List.map_cons,List.map_nil]);first|done|rfl|(simp only [List.length_drop,List.length_take];rfl)) ?_;(with_reducible refine (ratio_divisor.calls kj2 a0 a1 t221 _ A8.out).mono ?_);rintro e w' ⟨rfl,⟨nd,rfl⟩⟩;refine ⟨_,rfl,?_⟩;(try (rw [drewN_self wc];generalize hq_ : World.drewN wc _ = wc;have n0_ : Aside0 (wc.heap[gb220]? = some (.cells #[.int .i64 0,.int .i64 0] 37 (0,0))):=⟨by rw [← hq_];exact (by (with_reducible repeat (first|refine blk_drewN ?_ _|refine blk_drew ?_|refine blk_alloc ?_ _));exact BK220.out)⟩;have n1_ : Aside0 (Below w.heap.size w wc):=⟨by rw [← hq_];exact (by repeat (first|(with_reducible first|exact HB.out|apply ba|apply bb|apply bc|refine below_set ?_ GE220.out)|exact HB.out))⟩;clear BK220 HB hq_;have BK220:=n0_;have HB:=n1_;clear n0_ n1_))))
      (try (rw [drewN_self wc];generalize hq_ : World.drewN wc _ = wc;have n0_ : Aside0 (wc.heap[gb220]? = some (.cells #[.int .i64 0,.int .i64 0] 37 (0,0))):=⟨by rw [← hq_];exact (by (with_reducible repeat (first|refine blk_drewN ?_ _|refine blk_drew ?_|refine blk_alloc ?_ _));exact BK220.out)⟩;have n1_ : Aside0 (Below w.heap.size w wc):=⟨by rw [← hq_];exact (by repeat (first|(with_reducible first|exact HB.out|apply ba|apply bb|apply bc|refine below_set ?_ GE220.out)|exact HB.out))⟩;clear BK220 HB hq_;have BK220:=n0_;have HB:=n1_;clear n0_ n1_))
      have n0_:=A_ (blk_drew BK220.out)
      have n1_:=A_ (below_drew1 HB.out)
      clear BK220
      clear HB
      have BK220:=n0_
      have HB:=n1_
      clear n0_ n1_
      refine start_ (n:=9) (S:=fun w'=>True) (ds:=[]) #[false,false,false,false,false,false,false,false,false] (by kernel_rfl) rfl rfl trivial (fun hHeld=>?_);refine with_tabW ratio_Make.tab4 ratio_Make.bits4 (fun HT_ HW_=>?_)
      generalize wc.drew = w12 at BK220 HB hHeld ⊢
      refine pure_ (i:=0) (N:=some 18) (v:=?_) (a':=?_) #[true,false,false,false,false,false,false,false,false] rfl rfl (any_of HT_.out (by kernel_rfl)) (fun _ _ _ h=>h) (Or.inl ⟨by rfl,?_⟩) ?_ ?_
      rotate_left
      ·
       intro w'
       go_simp
       with_reducible rfl
      rotate_left
      ·
       simp only [Act.put,sa,sb,sc,i64_w,i32_w]
       rfl
      refine pure_ (i:=1) (N:=some 19) (v:=?_) (a':=?_) #[true,true,false,false,false,false,false,false,false] rfl rfl (any_of HT_.out (by kernel_rfl)) (fun _ _ _ h=>h) (Or.inl ⟨by rfl,?_⟩) ?_ ?_
      rotate_left
      ·
       intro w'
       go_simp
       with_reducible rfl
      rotate_left
      ·
       simp only [Act.put,sa,sb,sc,i64_w,i32_w]
       rfl
      refine pure_ (i:=2) (N:=some 20) (v:=?_) (a':=?_) #[true,true,true,false,false,false,false,false,false] rfl rfl (any_of HT_.out (by kernel_rfl)) (fun _ _ _ h=>h) (Or.inl ⟨by rfl,?_⟩) ?_ ?_
      rotate_left
      ·
       intro w'
       go_simp
       with_reducible rfl
      rotate_left
      ·
       simp only [Act.put,sa,sb,sc,i64_w,i32_w]
       rfl
      refine pure_ (i:=3) (N:=some 21) (v:=?_) (a':=?_) #[true,true,true,true,false,false,false,false,false] rfl rfl (any_of HT_.out (by kernel_rfl)) (fun _ _ _ h=>h) (Or.inl ⟨by rfl,?_⟩) ?_ ?_
      rotate_left
      ·
       intro w'
       go_simp
       with_reducible rfl
      rotate_left
      ·
       simp only [Act.put,sa,sb,sc,i64_w,i32_w]
       rfl
      refine pure_ (i:=4) (N:=some 22) (v:=?_) (a':=?_) #[true,true,true,true,true,false,false,false,false] rfl rfl (any_of HT_.out (by kernel_rfl)) (fun _ _ _ h=>h) (Or.inl ⟨by rfl,?_⟩) ?_ ?_
      rotate_left
      ·
       intro w'
       go_simp
       with_reducible rfl
      rotate_left
      ·
       simp only [Act.put,sa,sb,sc,i64_w,i32_w]
       rfl
      refine pure_ (i:=5) (N:=some 23) (v:=?_) (a':=?_) #[true,true,true,true,true,true,false,false,false] rfl rfl (any_of HT_.out (by kernel_rfl)) (fun _ _ _ h=>h) (Or.inl ⟨by rfl,?_⟩) ?_ ?_
      rotate_left
      ·
       intro w'
       go_simp
       with_reducible rfl
      rotate_left
      ·
       simp only [Act.put,sa,sb,sc,i64_w,i32_w]
       rfl
      refine pure_ (i:=6) (N:=some 24) (v:=?_) (a':=?_) #[true,true,true,true,true,true,true,false,false] rfl rfl (any_of HT_.out (by kernel_rfl)) (fun _ _ _ h=>h) (Or.inl ⟨by rfl,?_⟩) ?_ ?_
      rotate_left
      ·
       intro w'
       go_simp
       with_reducible rfl
      rotate_left
      ·
       simp only [Act.put,sa,sb,sc,i64_w,i32_w]
       rfl
      refine one_ (i:=7) (N:=some 7) #[true,true,true,true,true,true,true,true,false] rfl rfl (one_of HT_.out (by kernel_rfl)) (by decide) (fun K hK=>?_)
      refine box_step ?hg (N:=7) ?hd (cs:=#[.int .i64 0,.int .i64 0]) (t:=37) ?hr ?_;(case hd=>rfl);(case hg=>rfl);(case hr=>first|(go_simp;done)|(go_simp;rfl))
      intro gb222 hg w13 hbox hb
      have n0_:=A_ (blk_below (g:=gb220) (o:=.cells #[.int .i64 0,.int .i64 0] 37 (0,0)) (by (with_reducible repeat (first|refine blk_drewN ?_ _|refine blk_drew ?_|refine blk_alloc ?_ _));exact BK220.out) hb)
      have n1_:=A_ (below_step (by repeat (first|(with_reducible first|exact HB.out|apply ba|apply bb|apply bc|refine below_set ?_ GE220.out)|exact HB.out)) hb)
      have n2_:=A_ (hbox)
      have n3_:=A_ ((by rw [hg];exact (below_size (by repeat (first|(with_reducible first|exact HB.out|apply ba|apply bb|apply bc|refine below_set ?_ GE220.out)|exact HB.out))) : w.heap.size ≤ gb222))
      have n4_:=A_ ((by rw [hg];exact (below_size (by repeat (first|(with_reducible first|exact HB.out|apply ba|apply bb|apply bc|refine below_set ?_ GE220.out)|exact HB.out))) : w.heap.size ≤ gb222))
      have n5_:=A_ ((by rw [hg];exact Nat.ne_of_lt (blk_lt (g:=gb220) (o:=.cells #[.int .i64 0,.int .i64 0] 37 (0,0)) (by (with_reducible repeat (first|refine blk_drewN ?_ _|refine blk_drew ?_|refine blk_alloc ?_ _));exact BK220.out)) : gb220≠gb222))
      have n6_:=A_ ((by rw [hg];exact Nat.ne_of_gt (blk_lt (g:=gb220) (o:=.cells #[.int .i64 0,.int .i64 0] 37 (0,0)) (by (with_reducible repeat (first|refine blk_drewN ?_ _|refine blk_drew ?_|refine blk_alloc ?_ _));exact BK220.out)) : gb222≠gb220))
      clear BK220
      clear HB
      have BK220:=n0_
      have HB:=n1_
      have BK222:=n2_
      have GW222:=n3_
      have GE222:=n4_
      have NB220_222:=n5_
      have NB222_220:=n6_
      clear n0_ n1_ n2_ n3_ n4_ n5_ n6_
      clear hb hbox hg
      refine hK.out _ _ trivial (fun hHeld=>?_)
      clear hK K
      refine norm_ (a':=?_) ?_ ?_
      rotate_left
      ·
       show Act.put _ (some 7) _ = _
       simp only [Act.put,sa,sb,sc,i64_w,i32_w]
       rfl
      refine one_ (i:=8) (N:=none) #[true,true,true,true,true,true,true,true,true] rfl rfl (one_of HT_.out (by kernel_rfl)) (by decide) (fun K hK=>?_)
      have hs14 : w13.cell? ⟨gb222,0,none⟩ = some (.int .i64 0):=(blk_cell BK222.out 0).trans rfl
      have hfs14:=blk_frozen BK222.out 0
      have hns14_0:=NB220_222.out
      have hms14_0:=NB222_220.out
      have hs15 : w13.cell? ⟨gb222,1,none⟩ = some (.int .i64 0):=(blk_cell BK222.out 1).trans rfl
      have hfs15:=blk_frozen BK222.out 1
      have hns15_0:=NB220_222.out
      have hms15_0:=NB222_220.out
      refine skip_ (w1:=?_) (by rfl) rfl ?_ ?_
      rotate_left
      ·
       go_simp
       rfl
      refine hK.out _ _ trivial (fun hHeld=>?_)
      clear hK K
      refine done_ (done_of HT_.out (by kernel_rfl)) ?_
      have hnb16:=NB222_220.out
      have hnc16:=NB220_222.out
      have hcz17_0 : w13.cell? ⟨gb222,0,none⟩ = some (.int .i64 0):=(blk_cell BK222.out 0).trans rfl
      have hcz17_1 : w13.cell? ⟨gb222,1,none⟩ = some (.int .i64 0):=(blk_cell BK222.out 1).trans rfl
      have hfz17_0:=blk_frozen BK222.out 0
      have hfz17_1:=blk_frozen BK222.out 1
      try go_wp2_with (first|((with_reducible refine gate_callee (f:=46) rfl ?_);refine goesL_ (some 26) rfl rfl Try.func46 (by kernel_rfl) rfl #[.agg #[.int .i64 (wrap64 (Int.tdiv a0 t221)),.int .i64 (wrap64 (Int.tdiv a1 t221))]] rfl (by (try simp only [List.map_toArray,List.map_cons,List.map_nil]);first|done|rfl|(simp only [List.length_drop,List.length_take];rfl)) ?_;(with_reducible refine (ratio_within.calls (wrap64 (Int.tdiv a0 t221)) (wrap64 (Int.tdiv a1 t221)) true _ A10.out).mono ?_);rintro e w18 ⟨rfl,hb⟩;refine ⟨_,rfl,?_⟩;have n0_:=A_ (blk_below (g:=gb220) (o:=.cells #[.int .i64 0,.int .i64 0] 37 (0,0)) (by (with_reducible repeat (first|refine blk_drewN ?_ _|refine blk_drew ?_|refine blk_alloc ?_ _));refine blk_far ?_ NB220_222.out _;(with_reducible repeat (first|refine blk_drewN ?_ _|refine blk_drew ?_|refine blk_alloc ?_ _));refine blk_far ?_ NB220_222.out _;(with_reducible repeat (first|refine blk_drewN ?_ _|refine blk_drew ?_|refine blk_alloc ?_ _));exact BK220.out) hb);have n1_:=A_ (blk_below (g:=gb222) (o:=.cells #[.int .i64 (wrap64 (Int.tdiv a0 t221)),.int .i64 (wrap64 (Int.tdiv a1 t221))] 37 (0,0)) (by (with_reducible repeat (first|refine blk_drewN ?_ _|refine blk_drew ?_|refine blk_alloc ?_ _));refine blk_put (cs:=#[.int .i64 (wrap64 (Int.tdiv a0 t221)),.int .i64 0]) ?_ 1 _ rfl;(with_reducible repeat (first|refine blk_drewN ?_ _|refine blk_drew ?_|refine blk_alloc ?_ _));refine blk_put (cs:=#[.int .i64 0,.int .i64 0]) ?_ 0 _ rfl;(with_reducible repeat (first|refine blk_drewN ?_ _|refine blk_drew ?_|refine blk_alloc ?_ _));exact BK222.out) hb);have n2_:=A_ (below_step (by repeat (first|(with_reducible first|exact HB.out|apply ba|apply bb|apply bc|refine below_set ?_ GE220.out|refine below_set ?_ GE222.out)|exact HB.out)) hb);clear BK220;clear BK222;clear HB;have BK220:=n0_;have BK222:=n1_;have HB:=n2_;clear n0_ n1_ n2_;(try clear hb);(try clear hb2);(try clear hk);(try clear hi);have hcz19_0 : w18.cell? ⟨gb222,0,none⟩ = some (.int .i64 (wrap64 (Int.tdiv a0 t221))):=(blk_cell BK222.out 0).trans rfl;have hcz19_1 : w18.cell? ⟨gb222,1,none⟩ = some (.int .i64 (wrap64 (Int.tdiv a1 t221))):=(blk_cell BK222.out 1).trans rfl;have hfz19_0:=blk_frozen BK222.out 0;have hfz19_1:=blk_frozen BK222.out 1;have hcz20_0 : w18.cell? ⟨gb220,0,none⟩ = some (.int .i64 0):=(blk_cell BK220.out 0).trans rfl;have hcz20_1 : w18.cell? ⟨gb220,1,none⟩ = some (.int .i64 0):=(blk_cell BK220.out 1).trans rfl;have hfz20_0:=blk_frozen BK220.out 0;have hfz20_1:=blk_frozen BK220.out 1))
      refine bodyPost_ret (results_ct rfl _ _ gb220 37 #[.int .i64 (wrap64 (Int.tdiv a0 t221)),.int .i64 (wrap64 (Int.tdiv a1 t221))] (0,0) _ rfl (by (with_reducible repeat (first|refine blk_drewN ?_ _|refine blk_drew ?_|refine blk_alloc ?_ _));refine blk_put (cs:=#[.int .i64 (wrap64 (Int.tdiv a0 t221)),.int .i64 0]) ?_ 1 _ rfl;(with_reducible repeat (first|refine blk_drewN ?_ _|refine blk_drew ?_|refine blk_alloc ?_ _));refine blk_put (cs:=#[.int .i64 0,.int .i64 0]) ?_ 0 _ rfl;(with_reducible repeat (first|refine blk_drewN ?_ _|refine blk_drew ?_|refine blk_alloc ?_ _));exact BK220.out) Try.underlying37 rfl (by kernel_rfl)) rfl ?_
      exact ⟨by first|rfl|(simp [errW_none,errW_some] <;> rfl)|(simp [*,errW_none,errW_some] <;> rfl),by repeat (first|(with_reducible first|exact HB.out|apply ba|apply bb|apply bc|refine below_set ?_ GE220.out|refine below_set ?_ GE222.out)|exact HB.out)⟩
     ·
      replace c11:=Bool.eq_false_iff.mpr c11
      subst c11
      have H1 : (some (0,0,1)) = some (r1,r2,r3):=by rw [if_neg (show ¬ (false = true) by decide)] at H;exact H
      clear H
      have H:=H1
      clear H1
      simp only [Option.some.injEq,Prod.mk.injEq] at H
      obtain ⟨rfl,rfl,rfl⟩:=H
      try go_wp2_with (first|((with_reducible refine gate_callee (f:=45) rfl ?_);refine goesL_ (some 17) rfl rfl Try.func45 (by kernel_rfl) rfl #[.int .i64 a0,.int .i64 a1] rfl (by (try simp only [List.map_toArray,List.map_cons,List.map_nil]);first|done|rfl|(simp only [List.length_drop,List.length_take];rfl)) ?_;(with_reducible refine (ratio_divisor.calls kj2 a0 a1 t221 _ A8.out).mono ?_);rintro e w' ⟨rfl,⟨nd,rfl⟩⟩;refine ⟨_,rfl,?_⟩;(try (rw [drewN_self wc];generalize hq_ : World.drewN wc _ = wc;have n0_ : Aside0 (wc.heap[gb220]? = some (.cells #[.int .i64 0,.int .i64 0] 37 (0,0))):=⟨by rw [← hq_];exact (by (with_reducible repeat (first|refine blk_drewN ?_ _|refine blk_drew ?_|refine blk_alloc ?_ _));exact BK220.out)⟩;have n1_ : Aside0 (Below w.heap.size w wc):=⟨by rw [← hq_];exact (by repeat (first|(with_reducible first|exact HB.out|apply ba|apply bb|apply bc|refine below_set ?_ GE220.out)|exact HB.out))⟩;clear BK220 HB hq_;have BK220:=n0_;have HB:=n1_;clear n0_ n1_))))
      (try (rw [drewN_self wc];generalize hq_ : World.drewN wc _ = wc;have n0_ : Aside0 (wc.heap[gb220]? = some (.cells #[.int .i64 0,.int .i64 0] 37 (0,0))):=⟨by rw [← hq_];exact (by (with_reducible repeat (first|refine blk_drewN ?_ _|refine blk_drew ?_|refine blk_alloc ?_ _));exact BK220.out)⟩;have n1_ : Aside0 (Below w.heap.size w wc):=⟨by rw [← hq_];exact (by repeat (first|(with_reducible first|exact HB.out|apply ba|apply bb|apply bc|refine below_set ?_ GE220.out)|exact HB.out))⟩;clear BK220 HB hq_;have BK220:=n0_;have HB:=n1_;clear n0_ n1_))
      have n0_:=A_ (blk_drew BK220.out)
      have n1_:=A_ (below_drew1 HB.out)
      clear BK220
      clear HB
      have BK220:=n0_
      have HB:=n1_
      clear n0_ n1_
      refine start_ (n:=9) (S:=fun w'=>True) (ds:=[]) #[false,false,false,false,false,false,false,false,false] (by kernel_rfl) rfl rfl trivial (fun hHeld=>?_);refine with_tabW ratio_Make.tab4 ratio_Make.bits4 (fun HT_ HW_=>?_)
      generalize wc.drew = w21 at BK220 HB hHeld ⊢
      refine pure_ (i:=0) (N:=some 18) (v:=?_) (a':=?_) #[true,false,false,false,false,false,false,false,false] rfl rfl (any_of HT_.out (by kernel_rfl)) (fun _ _ _ h=>h) (Or.inl ⟨by rfl,?_⟩) ?_ ?_
      rotate_left
      ·
       intro w'
       go_simp
       with_reducible rfl
      rotate_left
      ·
       simp only [Act.put,sa,sb,sc,i64_w,i32_w]
       rfl
      refine pure_ (i:=1) (N:=some 19) (v:=?_) (a':=?_) #[true,true,false,false,false,false,false,false,false] rfl rfl (any_of HT_.out (by kernel_rfl)) (fun _ _ _ h=>h) (Or.inl ⟨by rfl,?_⟩) ?_ ?_
      rotate_left
      ·
       intro w'
       go_simp
       with_reducible rfl
      rotate_left
      ·
       simp only [Act.put,sa,sb,sc,i64_w,i32_w]
       rfl
      refine pure_ (i:=2) (N:=some 20) (v:=?_) (a':=?_) #[true,true,true,false,false,false,false,false,false] rfl rfl (any_of HT_.out (by kernel_rfl)) (fun _ _ _ h=>h) (Or.inl ⟨by rfl,?_⟩) ?_ ?_
      rotate_left
      ·
       intro w'
       go_simp
       with_reducible rfl
      rotate_left
      ·
       simp only [Act.put,sa,sb,sc,i64_w,i32_w]
       rfl
      refine pure_ (i:=3) (N:=some 21) (v:=?_) (a':=?_) #[true,true,true,true,false,false,false,false,false] rfl rfl (any_of HT_.out (by kernel_rfl)) (fun _ _ _ h=>h) (Or.inl ⟨by rfl,?_⟩) ?_ ?_
      rotate_left
      ·
       intro w'
       go_simp
       with_reducible rfl
      rotate_left
      ·
       simp only [Act.put,sa,sb,sc,i64_w,i32_w]
       rfl
      refine pure_ (i:=4) (N:=some 22) (v:=?_) (a':=?_) #[true,true,true,true,true,false,false,false,false] rfl rfl (any_of HT_.out (by kernel_rfl)) (fun _ _ _ h=>h) (Or.inl ⟨by rfl,?_⟩) ?_ ?_
      rotate_left
      ·
       intro w'
       go_simp
       with_reducible rfl
      rotate_left
      ·
       simp only [Act.put,sa,sb,sc,i64_w,i32_w]
       rfl
      refine pure_ (i:=5) (N:=some 23) (v:=?_) (a':=?_) #[true,true,true,true,true,true,false,false,false] rfl rfl (any_of HT_.out (by kernel_rfl)) (fun _ _ _ h=>h) (Or.inl ⟨by rfl,?_⟩) ?_ ?_
      rotate_left
      ·
       intro w'
       go_simp
       with_reducible rfl
      rotate_left
      ·
       simp only [Act.put,sa,sb,sc,i64_w,i32_w]
       rfl
      refine pure_ (i:=6) (N:=some 24) (v:=?_) (a':=?_) #[true,true,true,true,true,true,true,false,false] rfl rfl (any_of HT_.out (by kernel_rfl)) (fun _ _ _ h=>h) (Or.inl ⟨by rfl,?_⟩) ?_ ?_
      rotate_left
      ·
       intro w'
       go_simp
       with_reducible rfl
      rotate_left
      ·
       simp only [Act.put,sa,sb,sc,i64_w,i32_w]
       rfl
      refine one_ (i:=7) (N:=some 7) #[true,true,true,true,true,true,true,true,false] rfl rfl (one_of HT_.out (by kernel_rfl)) (by decide) (fun K hK=>?_)
      refine box_step ?hg (N:=7) ?hd (cs:=#[.int .i64 0,.int .i64 0]) (t:=37) ?hr ?_;(case hd=>rfl);(case hg=>rfl);(case hr=>first|(go_simp;done)|(go_simp;rfl))
      intro gb222 hg w22 hbox hb
      have n0_:=A_ (blk_below (g:=gb220) (o:=.cells #[.int .i64 0,.int .i64 0] 37 (0,0)) (by (with_reducible repeat (first|refine blk_drewN ?_ _|refine blk_drew ?_|refine blk_alloc ?_ _));exact BK220.out) hb)
      have n1_:=A_ (below_step (by repeat (first|(with_reducible first|exact HB.out|apply ba|apply bb|apply bc|refine below_set ?_ GE220.out)|exact HB.out)) hb)
      have n2_:=A_ (hbox)
      have n3_:=A_ ((by rw [hg];exact (below_size (by repeat (first|(with_reducible first|exact HB.out|apply ba|apply bb|apply bc|refine below_set ?_ GE220.out)|exact HB.out))) : w.heap.size ≤ gb222))
      have n4_:=A_ ((by rw [hg];exact (below_size (by repeat (first|(with_reducible first|exact HB.out|apply ba|apply bb|apply bc|refine below_set ?_ GE220.out)|exact HB.out))) : w.heap.size ≤ gb222))
      have n5_:=A_ ((by rw [hg];exact Nat.ne_of_lt (blk_lt (g:=gb220) (o:=.cells #[.int .i64 0,.int .i64 0] 37 (0,0)) (by (with_reducible repeat (first|refine blk_drewN ?_ _|refine blk_drew ?_|refine blk_alloc ?_ _));exact BK220.out)) : gb220≠gb222))
      have n6_:=A_ ((by rw [hg];exact Nat.ne_of_gt (blk_lt (g:=gb220) (o:=.cells #[.int .i64 0,.int .i64 0] 37 (0,0)) (by (with_reducible repeat (first|refine blk_drewN ?_ _|refine blk_drew ?_|refine blk_alloc ?_ _));exact BK220.out)) : gb222≠gb220))
      clear BK220
      clear HB
      have BK220:=n0_
      have HB:=n1_
      have BK222:=n2_
      have GW222:=n3_
      have GE222:=n4_
      have NB220_222:=n5_
      have NB222_220:=n6_
      clear n0_ n1_ n2_ n3_ n4_ n5_ n6_
      clear hb hbox hg
      refine hK.out _ _ trivial (fun hHeld=>?_)
      clear hK K
      refine norm_ (a':=?_) ?_ ?_
      rotate_left
      ·
       show Act.put _ (some 7) _ = _
       simp only [Act.put,sa,sb,sc,i64_w,i32_w]
       rfl
      refine one_ (i:=8) (N:=none) #[true,true,true,true,true,true,true,true,true] rfl rfl (one_of HT_.out (by kernel_rfl)) (by decide) (fun K hK=>?_)
      have hs23 : w22.cell? ⟨gb222,0,none⟩ = some (.int .i64 0):=(blk_cell BK222.out 0).trans rfl
      have hfs23:=blk_frozen BK222.out 0
      have hns23_0:=NB220_222.out
      have hms23_0:=NB222_220.out
      have hs24 : w22.cell? ⟨gb222,1,none⟩ = some (.int .i64 0):=(blk_cell BK222.out 1).trans rfl
      have hfs24:=blk_frozen BK222.out 1
      have hns24_0:=NB220_222.out
      have hms24_0:=NB222_220.out
      refine skip_ (w1:=?_) (by rfl) rfl ?_ ?_
      rotate_left
      ·
       go_simp
       rfl
      refine hK.out _ _ trivial (fun hHeld=>?_)
      clear hK K
      refine done_ (done_of HT_.out (by kernel_rfl)) ?_
      have hnb25:=NB222_220.out
      have hnc25:=NB220_222.out
      have hcz26_0 : w22.cell? ⟨gb222,0,none⟩ = some (.int .i64 0):=(blk_cell BK222.out 0).trans rfl
      have hcz26_1 : w22.cell? ⟨gb222,1,none⟩ = some (.int .i64 0):=(blk_cell BK222.out 1).trans rfl
      have hfz26_0:=blk_frozen BK222.out 0
      have hfz26_1:=blk_frozen BK222.out 1
      try go_wp2_with (first|((with_reducible refine gate_callee (f:=46) rfl ?_);refine goesL_ (some 26) rfl rfl Try.func46 (by kernel_rfl) rfl #[.agg #[.int .i64 (wrap64 (Int.tdiv a0 t221)),.int .i64 (wrap64 (Int.tdiv a1 t221))]] rfl (by (try simp only [List.map_toArray,List.map_cons,List.map_nil]);first|done|rfl|(simp only [List.length_drop,List.length_take];rfl)) ?_;(with_reducible refine (ratio_within.calls (wrap64 (Int.tdiv a0 t221)) (wrap64 (Int.tdiv a1 t221)) false _ A10.out).mono ?_);rintro e w27 ⟨rfl,hb⟩;refine ⟨_,rfl,?_⟩;have n0_:=A_ (blk_below (g:=gb220) (o:=.cells #[.int .i64 0,.int .i64 0] 37 (0,0)) (by (with_reducible repeat (first|refine blk_drewN ?_ _|refine blk_drew ?_|refine blk_alloc ?_ _));refine blk_far ?_ NB220_222.out _;(with_reducible repeat (first|refine blk_drewN ?_ _|refine blk_drew ?_|refine blk_alloc ?_ _));refine blk_far ?_ NB220_222.out _;(with_reducible repeat (first|refine blk_drewN ?_ _|refine blk_drew ?_|refine blk_alloc ?_ _));exact BK220.out) hb);have n1_:=A_ (blk_below (g:=gb222) (o:=.cells #[.int .i64 (wrap64 (Int.tdiv a0 t221)),.int .i64 (wrap64 (Int.tdiv a1 t221))] 37 (0,0)) (by (with_reducible repeat (first|refine blk_drewN ?_ _|refine blk_drew ?_|refine blk_alloc ?_ _));refine blk_put (cs:=#[.int .i64 (wrap64 (Int.tdiv a0 t221)),.int .i64 0]) ?_ 1 _ rfl;(with_reducible repeat (first|refine blk_drewN ?_ _|refine blk_drew ?_|refine blk_alloc ?_ _));refine blk_put (cs:=#[.int .i64 0,.int .i64 0]) ?_ 0 _ rfl;(with_reducible repeat (first|refine blk_drewN ?_ _|refine blk_drew ?_|refine blk_alloc ?_ _));exact BK222.out) hb);have n2_:=A_ (below_step (by repeat (first|(with_reducible first|exact HB.out|apply ba|apply bb|apply bc|refine below_set ?_ GE220.out|refine below_set ?_ GE222.out)|exact HB.out)) hb);clear BK220;clear BK222;clear HB;have BK220:=n0_;have BK222:=n1_;have HB:=n2_;clear n0_ n1_ n2_;(try clear hb);(try clear hb2);(try clear hk);(try clear hi);have hcz28_0 : w27.cell? ⟨gb220,0,none⟩ = some (.int .i64 0):=(blk_cell BK220.out 0).trans rfl;have hcz28_1 : w27.cell? ⟨gb220,1,none⟩ = some (.int .i64 0):=(blk_cell BK220.out 1).trans rfl;have hfz28_0:=blk_frozen BK220.out 0;have hfz28_1:=blk_frozen BK220.out 1))
      refine bodyPost_ret (results_ct rfl _ _ gb220 37 #[.int .i64 0,.int .i64 0] (0,0) _ rfl (by (with_reducible repeat (first|refine blk_drewN ?_ _|refine blk_drew ?_|refine blk_alloc ?_ _));refine blk_put (cs:=#[.int .i64 0,.int .i64 0]) ?_ 1 _ rfl;(with_reducible repeat (first|refine blk_drewN ?_ _|refine blk_drew ?_|refine blk_alloc ?_ _));refine blk_put (cs:=#[.int .i64 0,.int .i64 0]) ?_ 0 _ rfl;(with_reducible repeat (first|refine blk_drewN ?_ _|refine blk_drew ?_|refine blk_alloc ?_ _));exact BK220.out) Try.underlying37 rfl (by kernel_rfl)) rfl ?_
      exact ⟨by first|rfl|(simp [errW_none,errW_some] <;> rfl)|(simp [*,errW_none,errW_some] <;> rfl),by repeat (first|(with_reducible first|exact HB.out|apply ba|apply bb|apply bc|refine below_set ?_ GE220.out|refine below_set ?_ GE222.out)|exact HB.out)⟩

/-! ### euclid_Shifted: function 16 -/
def euclid_Shifted.l0 : Nat → List Int → List Int → Int → Int → List Int → Int → Int → Option (Int × Int × Int)
 | 0,_,_,_,_,_,_,_=>none
 | k + 1,x0,x1,x7,x8,x20,x21,x22=>if x22 < x21 then (if 0 ≤ x22 then (if x22 < (x20.length : Int) then (if x22 < (x1.length : Int) then (euclid_Shifted.l0 k x0 x1 (wrap64 (x7 + (wrap64 ((rd x20 x22) - (rd x1 x22))))) x8 x20 x21 (wrap64 (x22 + 1))) else (none)) else (none)) else (none)) else ((euclid_square.f k x0 x1).bind fun t228=>((ratio_Make.f k (wrap64 ((wrap64 (x8 * t228)) - (wrap64 (x7 * x7)))) x8).bind fun bt229=>(some (bt229.1,bt229.2.1,bt229.2.2))))
def euclid_Shifted.f (k : Nat) (l0 : List Int) (l1 : List Int) : Option (Int × Int × Int):=(euclid_check.f k l0 l1).bind fun t225=>(if t225 = 0 then (euclid_Shifted.l0 k l0 l1 0 (l0.length : Int) l0 (l0.length : Int) 0) else (some (0,0,t225)))
theorem euclid_Shifted.mono_l : ∀ k,(∀ y0 y1 y2 y3 y4 y5 y6,LeO (euclid_Shifted.l0 k y0 y1 y2 y3 y4 y5 y6) (euclid_Shifted.l0 (k + 1) y0 y1 y2 y3 y4 y5 y6))
 | 0=>fun _ _ _ _ _ _ _ r h=>by simp [euclid_Shifted.l0] at h
 | k + 1=>by
  have ih0:=euclid_Shifted.mono_l k
  ·
   intro y0 y1 y2 y3 y4 y5 y6
   unfold euclid_Shifted.l0
   repeat' first
   | (with_reducible exact ih0 _ _ _ _ _ _ _)
   | (with_reducible exact euclid_check.mono _ _ _)
   | (with_reducible exact euclid_square.mono _ _ _)
   | (with_reducible exact ratio_Make.mono _ _ _)
   | (with_reducible exact LeO.refl _)
   | (with_reducible exact LeO.none _)
   | (with_reducible refine LeO.ite ?_ ?_)
   | (with_reducible refine LeO.bind ?_ (fun _=>?_))
   | exact ih0 _ _ _ _ _ _ _
   | exact euclid_check.mono _ _ _
   | exact euclid_square.mono _ _ _
   | exact ratio_Make.mono _ _ _
   | exact LeO.none _
   | refine LeO.ite ?_ ?_
   | refine LeO.bind ?_ (fun _=>?_)
theorem euclid_Shifted.mono : ∀ a0 a1 k,LeO (euclid_Shifted.f k a0 a1) (euclid_Shifted.f (k + 1) a0 a1):=by
 intro a0 a1 k
 have ih0:=euclid_Shifted.mono_l k
 unfold euclid_Shifted.f
 repeat' first
   | (with_reducible exact ih0 _ _ _ _ _ _ _)
   | (with_reducible exact euclid_check.mono _ _ _)
   | (with_reducible exact euclid_square.mono _ _ _)
   | (with_reducible exact ratio_Make.mono _ _ _)
   | (with_reducible exact LeO.refl _)
   | (with_reducible exact LeO.none _)
   | (with_reducible refine LeO.ite ?_ ?_)
   | (with_reducible refine LeO.bind ?_ (fun _=>?_))
   | exact ih0 _ _ _ _ _ _ _
   | exact euclid_check.mono _ _ _
   | exact euclid_square.mono _ _ _
   | exact ratio_Make.mono _ _ _
   | exact LeO.none _
   | refine LeO.ite ?_ ?_
   | refine LeO.bind ?_ (fun _=>?_)
set_option maxHeartbeats 8000000 in
set_option maxRecDepth 100000 in
theorem euclid_Shifted.calls (k : Nat) (A0 : Option Addr) (c0 : Nat) (l0 : List Int) (A1 : Option Addr) (c1 : Nat) (l1 : List Int) (r1 : Int) (r2 : Int) (r3 : Int) (w : World) (hr0 : Kd.C (Kd.int .i64) w A0 l0.length l0) (hc0 : l0.length ≤ c0) (hr1 : Kd.C (Kd.int .i64) w A1 l1.length l1) (hc1 : l1.length ≤ c1) (h : euclid_Shifted.f k l0 l1 = some (r1,r2,r3)) :
  Calls Try.prog 16 #[.slice A0 l0.length c0,.slice A1 l1.length c1] w fun e w'=>e = .returned (.tuple #[.agg #[.int .i64 r1,.int .i64 r2],.int .i64 r3])∧Below w.heap.size w w':=by
 have hu37:=Try.underlying37
 have HR0:=A_ hr0
 have HC0:=A_ hc0
 clear hr0 hc0
 have HR1:=A_ hr1
 have HC1:=A_ hc1
 clear hr1 hc1
 have HB:=A_ (Below.refl w.heap.size w)
 have H : ((euclid_check.f k l0 l1).bind fun t225=>(if t225 = 0 then (euclid_Shifted.l0 k l0 l1 0 (l0.length : Int) l0 (l0.length : Int) 0) else (some (0,0,t225)))) = some (r1,r2,r3):=h
 clear h
 replace H:=Option.bind_eq_some_iff.mp H
 obtain ⟨t225,A30,H⟩:=H
 replace H : (if t225 = 0 then (euclid_Shifted.l0 k l0 l1 0 (l0.length : Int) l0 (l0.length : Int) 0) else (some (0,0,t225))) = some (r1,r2,r3):=H
 have A3:=A_ A30
 clear A30
 by_cases c4 : t225 = 0
 ·
  rw [if_pos c4] at H
  have c4b0 : (t225 == 0) = true:=beq_iff_eq.mpr c4
  have c4b1 : (t225 != 0) = false:=bne_eq_false_iff_eq.mpr c4
  clear c4
  have H':=A_ H
  clear H
  go_enter Try.func16,Try.ntmps16
  go_wp2_with (first|((with_reducible refine gate_dst (N:=4) rfl ?_);refine box_event ?hg (N:=4) ?hd (cs:=#[.int .i64 0,.int .i64 0]) (t:=37) ?hr ?_;(case hd=>rfl);(case hg=>rfl);(case hr=>first|(go_simp;done)|(go_simp;rfl));intro gb224 hg w5 hbox hb;have n0_:=A_ (below_step (by repeat (first|(with_reducible first|exact HB.out|apply ba|apply bb|apply bc)|exact HB.out)) hb);have n1_:=A_ (hbox);have n2_:=A_ ((by rw [hg];exact (below_size (by repeat (first|(with_reducible first|exact HB.out|apply ba|apply bb|apply bc)|exact HB.out))) : w.heap.size ≤ gb224));have n3_:=A_ ((by rw [hg];exact (below_size (by repeat (first|(with_reducible first|exact HB.out|apply ba|apply bb|apply bc)|exact HB.out))) : w.heap.size ≤ gb224));clear HB;have HB:=n0_;have BK224:=n1_;have GW224:=n2_;have GE224:=n3_;clear n0_ n1_ n2_ n3_;clear hb hbox hg)|((with_reducible refine gate_callee (f:=32) rfl ?_);refine goesL_ (some 13) rfl rfl Try.func32 (by kernel_rfl) rfl #[.slice A0 l0.length c0,.slice A1 l1.length c1] rfl (by (try simp only [List.map_toArray,List.map_cons,List.map_nil]);first|done|rfl|(simp only [List.length_drop,List.length_take];rfl)) ?_;(with_reducible refine (euclid_check.calls k _ _ l0 _ _ l1 t225 _ ?side1 ?side2 ?side3 ?side4 A3.out).mono ?_);(case side1=>repeat (first|exact (cl HR0.out HB.out)|(with_reducible refine ca ?_ _)|(with_reducible refine cb ?_ _)|(with_reducible refine cc ?_)));(case side2=>exact HC0.out);(case side3=>repeat (first|exact (cl HR1.out HB.out)|(with_reducible refine ca ?_ _)|(with_reducible refine cb ?_ _)|(with_reducible refine cc ?_)));(case side4=>exact HC1.out);rintro e w' ⟨rfl,⟨nd,rfl⟩⟩;refine ⟨_,rfl,?_⟩))
  go_loopg [7,22] k (fun kq v7 v22 w'=>∃ (x7_1 : Int) (x22_1 : Int),v7 = .int .i64 x7_1∧v22 = .int .i64 x22_1∧Aside0 (euclid_Shifted.l0 kq l0 l1 x7_1 (l0.length : Int) l0 (l0.length : Int) x22_1 = some (r1,r2,r3))∧Aside0 (kq ≤ k)∧Aside0 (w'.heap[gb224]? = some (.cells #[.int .i64 0,.int .i64 0] 37 (0,0)))∧Aside0 (Below w.heap.size w w'))
  case atStart=>exact ⟨(0),(0),(by first|rfl|(simp;done)|(simp [*];done)),(by first|rfl|(simp;done)|(simp [*];done)),H',⟨Nat.le_refl _⟩,⟨by (with_reducible repeat (first|refine blk_drewN ?_ _|refine blk_drew ?_|refine blk_alloc ?_ _));exact BK224.out⟩,⟨by repeat (first|(with_reducible first|exact HB.out|apply ba|apply bb|apply bc|refine below_set ?_ GE224.out)|exact HB.out)⟩⟩
  case round =>
   clear H'
   try clear c1
   try clear p2
   try clear c3
   try clear c4
   try clear c4b0
   try clear c4b1
   obtain ⟨x7_1,x22_1,rfl,rfl,HA,HK1,BK224,HB⟩:=hrel
   cases gk with
   | zero=>exact absurd HA.out (by simp [euclid_Shifted.l0])
   | succ k1 =>
    have H:=HA.out
    clear HA
    simp only [euclid_Shifted.l0] at H
    by_cases c6 : x22_1 < (l0.length : Int)
    ·
     rw [if_pos c6] at H
     have c6b0 : decide (x22_1 < (l0.length : Int)) = true:=decide_eq_true c6
     clear c6
     by_cases c7 : 0 ≤ x22_1
     ·
      rw [if_pos c7] at H
      have c7b0 : decide (0 ≤ x22_1) = true:=decide_eq_true c7
      clear c7
      by_cases c8 : x22_1 < (l0.length : Int)
      ·
       rw [if_pos c8] at H
       have c8b0 : decide (x22_1 < (l0.length : Int)) = true:=decide_eq_true c8
       clear c8
       by_cases c9 : x22_1 < (l1.length : Int)
       ·
        rw [if_pos c9] at H
        have c9b0 : decide (x22_1 < (l1.length : Int)) = true:=decide_eq_true c9
        clear c9
        have H':=A_ H
        clear H
        have p226 : 0 ≤ (x22_1 : Int):=of_decide_eq_true (by first|(with_reducible assumption)|assumption)
        have q226 : x22_1 < (l0.length : Int):=of_decide_eq_true (by first|(with_reducible assumption)|assumption)
        obtain ⟨ad226,e226,hx226_0⟩:=Kd.at_int HR0.out x22_1 p226 q226
        cases e226
        replace hx226_0:=(HB.out.cell (World.block_lt_of_cell? w _ hx226_0)).trans hx226_0
        replace p226:=eq_true p226
        replace q226:=eq_true q226
        have p227 : 0 ≤ (x22_1 : Int):=of_decide_eq_true (by first|(with_reducible assumption)|assumption)
        have q227 : x22_1 < (l1.length : Int):=of_decide_eq_true (by first|(with_reducible assumption)|assumption)
        obtain ⟨ad227,e227,hx227_0⟩:=Kd.at_int HR1.out x22_1 p227 q227
        cases e227
        replace hx227_0:=(HB.out.cell (World.block_lt_of_cell? w _ hx227_0)).trans hx227_0
        replace p227:=eq_true p227
        replace q227:=eq_true q227
        go_wp2
        go_roundg k1
        case measure=>have:=HK1.out;omega
        case rel=>exact ⟨(wrap64 (x7_1 + (wrap64 ((rd l0 x22_1) - (rd l1 x22_1))))),(wrap64 (x22_1 + 1)),(by first|rfl|(simp;done)|(simp [*];done)),(by first|rfl|(simp;done)|(simp [*];done)),H',⟨by have:=HK1.out;omega⟩,⟨by (with_reducible repeat (first|refine blk_drewN ?_ _|refine blk_drew ?_|refine blk_alloc ?_ _));exact BK224.out⟩,⟨by repeat (first|(with_reducible first|exact HB.out|apply ba|apply bb|apply bc|refine below_set ?_ GE224.out)|exact HB.out)⟩⟩
       ·
        rw [if_neg c9] at H
        exact absurd H (by simp)
      ·
       rw [if_neg c8] at H
       exact absurd H (by simp)
     ·
      rw [if_neg c7] at H
      exact absurd H (by simp)
    ·
     rw [if_neg c6] at H
     have c6b0 : decide (x22_1 < (l0.length : Int)) = false:=decide_eq_false c6
     clear c6
     replace H:=Option.bind_eq_some_iff.mp H
     obtain ⟨t228,A100,H⟩:=H
     replace H : ((ratio_Make.f k1 (wrap64 ((wrap64 ((l0.length : Int) * t228)) - (wrap64 (x7_1 * x7_1)))) (l0.length : Int)).bind fun bt229=>(some (bt229.1,bt229.2.1,bt229.2.2))) = some (r1,r2,r3):=H
     have A10:=A_ A100
     clear A100
     replace H:=Option.bind_eq_some_iff.mp H
     obtain ⟨⟨t229,t230,t231⟩,A110,H⟩:=H
     replace H : (some (t229,t230,t231)) = some (r1,r2,r3):=H
     have A11:=A_ A110
     clear A110
     simp only [Option.some.injEq,Prod.mk.injEq] at H
     obtain ⟨rfl,rfl,rfl⟩:=H
     go_wp2_with (first|((with_reducible refine gate_callee (f:=33) rfl ?_);refine goesL_ (some 39) rfl rfl Try.func33 (by kernel_rfl) rfl #[.slice A0 l0.length c0,.slice A1 l1.length c1] rfl (by (try simp only [List.map_toArray,List.map_cons,List.map_nil]);first|done|rfl|(simp only [List.length_drop,List.length_take];rfl)) ?_;(with_reducible refine (euclid_square.calls k1 _ _ l0 _ _ l1 t228 _ ?side1 ?side2 ?side3 ?side4 A10.out).mono ?_);(case side1=>repeat (first|exact (cl HR0.out HB.out)|(with_reducible refine ca ?_ _)|(with_reducible refine cb ?_ _)|(with_reducible refine cc ?_)));(case side2=>exact HC0.out);(case side3=>repeat (first|exact (cl HR1.out HB.out)|(with_reducible refine ca ?_ _)|(with_reducible refine cb ?_ _)|(with_reducible refine cc ?_)));(case side4=>exact HC1.out);rintro e w' ⟨rfl,⟨nd,rfl⟩⟩;refine ⟨_,rfl,?_⟩;(try (rw [drewN_self wr];generalize hq_ : World.drewN wr _ = wr;have n0_ : Aside0 (wr.heap[gb224]? = some (.cells #[.int .i64 0,.int .i64 0] 37 (0,0))):=⟨by rw [← hq_];exact (by (with_reducible repeat (first|refine blk_drewN ?_ _|refine blk_drew ?_|refine blk_alloc ?_ _));exact BK224.out)⟩;have n1_ : Aside0 (Below w.heap.size w wr):=⟨by rw [← hq_];exact (by repeat (first|(with_reducible first|exact HB.out|apply ba|apply bb|apply bc|refine below_set ?_ GE224.out)|exact HB.out))⟩;clear BK224 HB hq_;have BK224:=n0_;have HB:=n1_;clear n0_ n1_)))|((with_reducible refine gate_callee (f:=34) rfl ?_);refine goesL_ (some 46) rfl rfl Try.func34 (by kernel_rfl) rfl #[.int .i64 (wrap64 ((wrap64 ((l0.length : Int) * t228)) - (wrap64 (x7_1 * x7_1)))),.int .i64 (l0.length : Int)] rfl (by (try simp only [List.map_toArray,List.map_cons,List.map_nil]);first|done|rfl|(simp only [List.length_drop,List.length_take];rfl)) ?_;(with_reducible refine (ratio_Make.calls k1 (wrap64 ((wrap64 ((l0.length : Int) * t228)) - (wrap64 (x7_1 * x7_1)))) (l0.length : Int) t229 t230 t231 _ A11.out).mono ?_);rintro e w12 ⟨rfl,hb⟩;refine ⟨_,rfl,?_⟩;have n0_:=A_ (blk_below (g:=gb224) (o:=.cells #[.int .i64 0,.int .i64 0] 37 (0,0)) (by (with_reducible repeat (first|refine blk_drewN ?_ _|refine blk_drew ?_|refine blk_alloc ?_ _));exact BK224.out) hb);have n1_:=A_ (below_step (by repeat (first|(with_reducible first|exact HB.out|apply ba|apply bb|apply bc|refine below_set ?_ GE224.out)|exact HB.out)) hb);clear BK224;clear HB;have BK224:=n0_;have HB:=n1_;clear n0_ n1_;(try clear hb);(try clear hb2);(try clear hk);(try clear hi);have hcz13_0 : w12.cell? ⟨gb224,0,none⟩ = some (.int .i64 0):=(blk_cell BK224.out 0).trans rfl;have hcz13_1 : w12.cell? ⟨gb224,1,none⟩ = some (.int .i64 0):=(blk_cell BK224.out 1).trans rfl;have hfz13_0:=blk_frozen BK224.out 0;have hfz13_1:=blk_frozen BK224.out 1))
     refine bodyPost_ret (results_ct rfl _ _ gb224 37 #[.int .i64 t229,.int .i64 t230] (0,0) _ rfl (by (with_reducible repeat (first|refine blk_drewN ?_ _|refine blk_drew ?_|refine blk_alloc ?_ _));refine blk_put (cs:=#[.int .i64 t229,.int .i64 0]) ?_ 1 _ rfl;(with_reducible repeat (first|refine blk_drewN ?_ _|refine blk_drew ?_|refine blk_alloc ?_ _));refine blk_put (cs:=#[.int .i64 0,.int .i64 0]) ?_ 0 _ rfl;(with_reducible repeat (first|refine blk_drewN ?_ _|refine blk_drew ?_|refine blk_alloc ?_ _));exact BK224.out) Try.underlying37 rfl (by kernel_rfl)) rfl ?_
     exact ⟨by first|rfl|(simp [errW_none,errW_some] <;> rfl)|(simp [*,errW_none,errW_some] <;> rfl),by repeat (first|(with_reducible first|exact HB.out|apply ba|apply bb|apply bc|refine below_set ?_ GE224.out)|exact HB.out)⟩
 ·
  rw [if_neg c4] at H
  have c4b0 : (t225 == 0) = false:=beq_eq_false_iff_ne.mpr c4
  have c4b1 : (t225 != 0) = true:=bne_iff_ne.mpr c4
  simp only [Option.some.injEq,Prod.mk.injEq] at H
  obtain ⟨rfl,rfl,rfl⟩:=H
  go_enter Try.func16,Try.ntmps16
  go_wp2_with (first|((with_reducible refine gate_dst (N:=4) rfl ?_);refine box_event ?hg (N:=4) ?hd (cs:=#[.int .i64 0,.int .i64 0]) (t:=37) ?hr ?_;(case hd=>rfl);(case hg=>rfl);(case hr=>first|(go_simp;done)|(go_simp;rfl));intro gb224 hg w14 hbox hb;have n0_:=A_ (below_step (by repeat (first|(with_reducible first|exact HB.out|apply ba|apply bb|apply bc)|exact HB.out)) hb);have n1_:=A_ (hbox);have n2_:=A_ ((by rw [hg];exact (below_size (by repeat (first|(with_reducible first|exact HB.out|apply ba|apply bb|apply bc)|exact HB.out))) : w.heap.size ≤ gb224));have n3_:=A_ ((by rw [hg];exact (below_size (by repeat (first|(with_reducible first|exact HB.out|apply ba|apply bb|apply bc)|exact HB.out))) : w.heap.size ≤ gb224));clear HB;have HB:=n0_;have BK224:=n1_;have GW224:=n2_;have GE224:=n3_;clear n0_ n1_ n2_ n3_;clear hb hbox hg)|((with_reducible refine gate_callee (f:=32) rfl ?_);refine goesL_ (some 13) rfl rfl Try.func32 (by kernel_rfl) rfl #[.slice A0 l0.length c0,.slice A1 l1.length c1] rfl (by (try simp only [List.map_toArray,List.map_cons,List.map_nil]);first|done|rfl|(simp only [List.length_drop,List.length_take];rfl)) ?_;(with_reducible refine (euclid_check.calls k _ _ l0 _ _ l1 t225 _ ?side1 ?side2 ?side3 ?side4 A3.out).mono ?_);(case side1=>repeat (first|exact (cl HR0.out HB.out)|(with_reducible refine ca ?_ _)|(with_reducible refine cb ?_ _)|(with_reducible refine cc ?_)));(case side2=>exact HC0.out);(case side3=>repeat (first|exact (cl HR1.out HB.out)|(with_reducible refine ca ?_ _)|(with_reducible refine cb ?_ _)|(with_reducible refine cc ?_)));(case side4=>exact HC1.out);rintro e w' ⟨rfl,⟨nd,rfl⟩⟩;refine ⟨_,rfl,?_⟩;(try (rw [drewN_self w14];generalize hq_ : World.drewN w14 _ = w14;have n0_ : Aside0 (w14.heap[gb224]? = some (.cells #[.int .i64 0,.int .i64 0] 37 (0,0))):=⟨by rw [← hq_];exact (by (with_reducible repeat (first|refine blk_drewN ?_ _|refine blk_drew ?_|refine blk_alloc ?_ _));exact BK224.out)⟩;have n1_ : Aside0 (Below w.heap.size w w14):=⟨by rw [← hq_];exact (by repeat (first|(with_reducible first|exact HB.out|apply ba|apply bb|apply bc|refine below_set ?_ GE224.out)|exact HB.out))⟩;clear BK224 HB hq_;have BK224:=n0_;have HB:=n1_;clear n0_ n1_));have hcz15_0 : w14.cell? ⟨gb224,0,none⟩ = some (.int .i64 0):=(blk_cell BK224.out 0).trans rfl;have hcz15_1 : w14.cell? ⟨gb224,1,none⟩ = some (.int .i64 0):=(blk_cell BK224.out 1).trans rfl;have hfz15_0:=blk_frozen BK224.out 0;have hfz15_1:=blk_frozen BK224.out 1))
  refine bodyPost_ret (results_ct rfl _ _ gb224 37 #[.int .i64 0,.int .i64 0] (0,0) _ rfl (by (with_reducible repeat (first|refine blk_drewN ?_ _|refine blk_drew ?_|refine blk_alloc ?_ _));refine blk_put (cs:=#[.int .i64 0,.int .i64 0]) ?_ 1 _ rfl;(with_reducible repeat (first|refine blk_drewN ?_ _|refine blk_drew ?_|refine blk_alloc ?_ _));refine blk_put (cs:=#[.int .i64 0,.int .i64 0]) ?_ 0 _ rfl;(with_reducible repeat (first|refine blk_drewN ?_ _|refine blk_drew ?_|refine blk_alloc ?_ _));exact BK224.out) Try.underlying37 rfl (by kernel_rfl)) rfl ?_
  exact ⟨by first|rfl|(simp [errW_none,errW_some] <;> rfl)|(simp [*,errW_none,errW_some] <;> rfl),by repeat (first|(with_reducible first|exact HB.out|apply ba|apply bb|apply bc|refine below_set ?_ GE224.out)|exact HB.out)⟩

/-! ### euclid_Profile: function 22 -/
def euclid_Profile.l0 : Nat → List Int → List Int → Int → List Int → Int → Int → Option (List Int × Int)
 | 0,_,_,_,_,_,_=>none
 | k + 1,x0,x1,x6,x7,x32,x33=>if x33 < x32 then (if 0 ≤ x33 then (if x33 ≤ (wrap64 (x33 + x6)) then (if (wrap64 (x33 + x6)) ≤ (x1.length : Int) then ((euclid_square.f k x0 ((x1.take ((wrap64 (x33 + x6)) : Int).toNat).drop (x33 : Int).toNat)).bind fun t236=>(if x7.length < 17592186044416 then (euclid_Profile.l0 k x0 x1 x6 (x7 ++ [t236]) x32 (wrap64 (x33 + 1))) else (none))) else (none)) else (none)) else (none)) else (some (x7,0))
def euclid_Profile.f (k : Nat) (l0 : List Int) (l1 : List Int) : Option (List Int × Int):=(euclid_length.f l0).bind fun t232=>(if t232 = true then ((euclid_samples.f k l0).bind fun t233=>(if t233 = true then (if (l1.length : Int) > 2000 then (some (([] : List Int),4)) else ((euclid_samples.f k l1).bind fun t234=>(if t234 = true then (euclid_Profile.l0 k l0 l1 (l0.length : Int) ([] : List Int) (mx 0 (wrap64 ((wrap64 ((l1.length : Int) - (l0.length : Int))) + 1))) 0) else (some (([] : List Int),12))))) else (some (([] : List Int),12)))) else (some (([] : List Int),8)))
theorem euclid_Profile.mono_l : ∀ k,(∀ y0 y1 y2 y3 y4 y5,LeO (euclid_Profile.l0 k y0 y1 y2 y3 y4 y5) (euclid_Profile.l0 (k + 1) y0 y1 y2 y3 y4 y5))
 | 0=>fun _ _ _ _ _ _ r h=>by simp [euclid_Profile.l0] at h
 | k + 1=>by
  have ih0:=euclid_Profile.mono_l k
  ·
   intro y0 y1 y2 y3 y4 y5
   unfold euclid_Profile.l0
   repeat' first
   | (with_reducible exact ih0 _ _ _ _ _ _)
   | (with_reducible exact euclid_samples.mono _ _)
   | (with_reducible exact euclid_square.mono _ _ _)
   | (with_reducible exact LeO.refl _)
   | (with_reducible exact LeO.none _)
   | (with_reducible refine LeO.ite ?_ ?_)
   | (with_reducible refine LeO.bind ?_ (fun _=>?_))
   | exact ih0 _ _ _ _ _ _
   | exact euclid_samples.mono _ _
   | exact euclid_square.mono _ _ _
   | exact LeO.none _
   | refine LeO.ite ?_ ?_
   | refine LeO.bind ?_ (fun _=>?_)
theorem euclid_Profile.mono : ∀ a0 a1 k,LeO (euclid_Profile.f k a0 a1) (euclid_Profile.f (k + 1) a0 a1):=by
 intro a0 a1 k
 have ih0:=euclid_Profile.mono_l k
 unfold euclid_Profile.f
 repeat' first
   | (with_reducible exact ih0 _ _ _ _ _ _)
   | (with_reducible exact euclid_samples.mono _ _)
   | (with_reducible exact euclid_square.mono _ _ _)
   | (with_reducible exact LeO.refl _)
   | (with_reducible exact LeO.none _)
   | (with_reducible refine LeO.ite ?_ ?_)
   | (with_reducible refine LeO.bind ?_ (fun _=>?_))
   | exact ih0 _ _ _ _ _ _
   | exact euclid_samples.mono _ _
   | exact euclid_square.mono _ _ _
   | exact LeO.none _
   | refine LeO.ite ?_ ?_
   | refine LeO.bind ?_ (fun _=>?_)
set_option maxHeartbeats 8000000 in
set_option maxRecDepth 100000 in
theorem euclid_Profile.calls (k : Nat) (A0 : Option Addr) (c0 : Nat) (l0 : List Int) (A1 : Option Addr) (c1 : Nat) (l1 : List Int) (r1 : List Int) (r2 : Int) (w : World) (hr0 : Kd.C (Kd.int .i64) w A0 l0.length l0) (hc0 : l0.length ≤ c0) (hr1 : Kd.C (Kd.int .i64) w A1 l1.length l1) (hc1 : l1.length ≤ c1) (h : euclid_Profile.f k l0 l1 = some (r1,r2)) :
  Calls Try.prog 22 #[.slice A0 l0.length c0,.slice A1 l1.length c1] w fun e w'=>∃ v0_ : Value,e = .returned (.tuple #[v0_,.int .i64 r2])∧Kd.R (Kd.int .i64) 3 w' w.heap.size (fun _=>True) v0_ r1∧Below w.heap.size w w':=by
 have HR0:=A_ hr0
 have HC0:=A_ hc0
 clear hr0 hc0
 have HR1:=A_ hr1
 have HC1:=A_ hc1
 clear hr1 hc1
 have HB:=A_ (Below.refl w.heap.size w)
 have H : ((euclid_length.f l0).bind fun t232=>(if t232 = true then ((euclid_samples.f k l0).bind fun t233=>(if t233 = true then (if (l1.length : Int) > 2000 then (some (([] : List Int),4)) else ((euclid_samples.f k l1).bind fun t234=>(if t234 = true then (euclid_Profile.l0 k l0 l1 (l0.length : Int) ([] : List Int) (mx 0 (wrap64 ((wrap64 ((l1.length : Int) - (l0.length : Int))) + 1))) 0) else (some (([] : List Int),12))))) else (some (([] : List Int),12)))) else (some (([] : List Int),8)))) = some (r1,r2):=h
 clear h
 replace H:=Option.bind_eq_some_iff.mp H
 obtain ⟨t232,A30,H⟩:=H
 replace H : (if t232 = true then ((euclid_samples.f k l0).bind fun t233=>(if t233 = true then (if (l1.length : Int) > 2000 then (some (([] : List Int),4)) else ((euclid_samples.f k l1).bind fun t234=>(if t234 = true then (euclid_Profile.l0 k l0 l1 (l0.length : Int) ([] : List Int) (mx 0 (wrap64 ((wrap64 ((l1.length : Int) - (l0.length : Int))) + 1))) 0) else (some (([] : List Int),12))))) else (some (([] : List Int),12)))) else (some (([] : List Int),8))) = some (r1,r2):=H
 have A3:=A_ A30
 clear A30
 by_cases c4 : t232 = true
 ·
  subst c4
  have H1 : ((euclid_samples.f k l0).bind fun t233=>(if t233 = true then (if (l1.length : Int) > 2000 then (some (([] : List Int),4)) else ((euclid_samples.f k l1).bind fun t234=>(if t234 = true then (euclid_Profile.l0 k l0 l1 (l0.length : Int) ([] : List Int) (mx 0 (wrap64 ((wrap64 ((l1.length : Int) - (l0.length : Int))) + 1))) 0) else (some (([] : List Int),12))))) else (some (([] : List Int),12)))) = some (r1,r2):=by rw [if_pos rfl] at H;exact H
  clear H
  have H:=H1
  clear H1
  replace H:=Option.bind_eq_some_iff.mp H
  obtain ⟨t233,A50,H⟩:=H
  replace H : (if t233 = true then (if (l1.length : Int) > 2000 then (some (([] : List Int),4)) else ((euclid_samples.f k l1).bind fun t234=>(if t234 = true then (euclid_Profile.l0 k l0 l1 (l0.length : Int) ([] : List Int) (mx 0 (wrap64 ((wrap64 ((l1.length : Int) - (l0.length : Int))) + 1))) 0) else (some (([] : List Int),12))))) else (some (([] : List Int),12))) = some (r1,r2):=H
  have A5:=A_ A50
  clear A50
  by_cases c6 : t233 = true
  ·
   subst c6
   have H1 : (if (l1.length : Int) > 2000 then (some (([] : List Int),4)) else ((euclid_samples.f k l1).bind fun t234=>(if t234 = true then (euclid_Profile.l0 k l0 l1 (l0.length : Int) ([] : List Int) (mx 0 (wrap64 ((wrap64 ((l1.length : Int) - (l0.length : Int))) + 1))) 0) else (some (([] : List Int),12))))) = some (r1,r2):=by rw [if_pos rfl] at H;exact H
   clear H
   have H:=H1
   clear H1
   by_cases c7 : (l1.length : Int) > 2000
   ·
    rw [if_pos c7] at H
    have c7b0 : decide (2000 < (l1.length : Int)) = true:=decide_eq_true c7
    have c7b1 : decide (2000 < l1.length) = true:=decide_eq_true (by omega)
    clear c7
    simp only [Option.some.injEq,Prod.mk.injEq] at H
    obtain ⟨rfl,rfl⟩:=H
    go_enter Try.func22,Try.ntmps22
    go_wp2_with (first|((with_reducible refine gate_callee (f:=38) rfl ?_);refine goesL_ (some 11) rfl rfl Try.func38 (by kernel_rfl) rfl #[.slice A0 l0.length c0] rfl (by (try simp only [List.map_toArray,List.map_cons,List.map_nil]);first|done|rfl|(simp only [List.length_drop,List.length_take];rfl)) ?_;(with_reducible refine (euclid_length.calls _ _ l0 true _ ?side1 ?side2 A3.out).mono ?_);(case side1=>repeat (first|exact HR0.out|(with_reducible refine ca ?_ _)|(with_reducible refine cb ?_ _)|(with_reducible refine cc ?_)));(case side2=>exact HC0.out);rintro e w' ⟨rfl,⟨nd,rfl⟩⟩;refine ⟨_,rfl,?_⟩)|((with_reducible refine gate_callee (f:=39) rfl ?_);refine goesL_ (some 15) rfl rfl Try.func39 (by kernel_rfl) rfl #[.slice A0 l0.length c0] rfl (by (try simp only [List.map_toArray,List.map_cons,List.map_nil]);first|done|rfl|(simp only [List.length_drop,List.length_take];rfl)) ?_;(with_reducible refine (euclid_samples.calls k _ _ l0 true _ ?side1 ?side2 A5.out).mono ?_);(case side1=>repeat (first|exact HR0.out|(with_reducible refine ca ?_ _)|(with_reducible refine cb ?_ _)|(with_reducible refine cc ?_)));(case side2=>exact HC0.out);rintro e w' ⟨rfl,⟨nd,rfl⟩⟩;refine ⟨_,rfl,?_⟩))
    go_ret2
    exact ⟨_,by first|rfl|(simp [errW_none,errW_some] <;> rfl)|(simp [*,errW_none,errW_some] <;> rfl),by first|exact Kd.R_nil _ _ _ _ _|exact Kd.N_nil _ _ _ _ _|exact Kd.V_nil _ _ _ _ _|exact Kd.Q_nil _ _ _ _ _|exact Kd.S_nil _ _ _ _ _,by repeat (first|(with_reducible first|exact HB.out|apply ba|apply bb|apply bc)|exact HB.out)⟩
   ·
    rw [if_neg c7] at H
    have c7b0 : decide (2000 < (l1.length : Int)) = false:=decide_eq_false c7
    have c7b1 : decide (2000 < l1.length) = false:=decide_eq_false (by omega)
    clear c7
    replace H:=Option.bind_eq_some_iff.mp H
    obtain ⟨t234,A80,H⟩:=H
    replace H : (if t234 = true then (euclid_Profile.l0 k l0 l1 (l0.length : Int) ([] : List Int) (mx 0 (wrap64 ((wrap64 ((l1.length : Int) - (l0.length : Int))) + 1))) 0) else (some (([] : List Int),12))) = some (r1,r2):=H
    have A8:=A_ A80
    clear A80
    by_cases c9 : t234 = true
    ·
     subst c9
     have H1 : (euclid_Profile.l0 k l0 l1 (l0.length : Int) ([] : List Int) (mx 0 (wrap64 ((wrap64 ((l1.length : Int) - (l0.length : Int))) + 1))) 0) = some (r1,r2):=by rw [if_pos rfl] at H;exact H
     clear H
     have H:=H1
     clear H1
     obtain ⟨ji10,hji10⟩ : ∃ j_ : Int,(mx 0 (wrap64 ((wrap64 ((l1.length : Int) - (l0.length : Int))) + 1))) = j_:=⟨_,rfl⟩
     replace H : (euclid_Profile.l0 k l0 l1 (l0.length : Int) ([] : List Int) ji10 0) = some (r1,r2):=by first|(rw [hji10] at H;exact H)|(simp only [hji10] at H ⊢;exact H)
     (try rw [hji10] at A3)
     (try rw [hji10] at A5)
     (try rw [hji10] at A8)
     (try (have hji10l : 0 ≤ ji10:=by (rw [← hji10];unfold mx;(repeat' split) <;> omega)))
     (try (have hji10m : 0 ≤ ji10:=by omega))
     have hji10_ : (if 0 < (wrap64 ((wrap64 ((l1.length : Int) - (l0.length : Int))) + 1)) then (wrap64 ((wrap64 ((l1.length : Int) - (l0.length : Int))) + 1)) else 0) = ji10:=hji10
     have H':=A_ H
     clear H
     go_enter Try.func22,Try.ntmps22
     go_wp2_with (first|((with_reducible refine gate_callee (f:=38) rfl ?_);refine goesL_ (some 11) rfl rfl Try.func38 (by kernel_rfl) rfl #[.slice A0 l0.length c0] rfl (by (try simp only [List.map_toArray,List.map_cons,List.map_nil]);first|done|rfl|(simp only [List.length_drop,List.length_take];rfl)) ?_;(with_reducible refine (euclid_length.calls _ _ l0 true _ ?side1 ?side2 A3.out).mono ?_);(case side1=>repeat (first|exact HR0.out|(with_reducible refine ca ?_ _)|(with_reducible refine cb ?_ _)|(with_reducible refine cc ?_)));(case side2=>exact HC0.out);rintro e w' ⟨rfl,⟨nd,rfl⟩⟩;refine ⟨_,rfl,?_⟩)|((with_reducible refine gate_callee (f:=39) rfl ?_);refine goesL_ (some 15) rfl rfl Try.func39 (by kernel_rfl) rfl #[.slice A0 l0.length c0] rfl (by (try simp only [List.map_toArray,List.map_cons,List.map_nil]);first|done|rfl|(simp only [List.length_drop,List.length_take];rfl)) ?_;(with_reducible refine (euclid_samples.calls k _ _ l0 true _ ?side1 ?side2 A5.out).mono ?_);(case side1=>repeat (first|exact HR0.out|(with_reducible refine ca ?_ _)|(with_reducible refine cb ?_ _)|(with_reducible refine cc ?_)));(case side2=>exact HC0.out);rintro e w' ⟨rfl,⟨nd,rfl⟩⟩;refine ⟨_,rfl,?_⟩)|((with_reducible refine gate_callee (f:=39) rfl ?_);refine goesL_ (some 23) rfl rfl Try.func39 (by kernel_rfl) rfl #[.slice A1 l1.length c1] rfl (by (try simp only [List.map_toArray,List.map_cons,List.map_nil]);first|done|rfl|(simp only [List.length_drop,List.length_take];rfl)) ?_;(with_reducible refine (euclid_samples.calls k _ _ l1 true _ ?side1 ?side2 A8.out).mono ?_);(case side1=>repeat (first|exact HR1.out|(with_reducible refine ca ?_ _)|(with_reducible refine cb ?_ _)|(with_reducible refine cc ?_)));(case side2=>exact HC1.out);rintro e w' ⟨rfl,⟨nd,rfl⟩⟩;refine ⟨_,rfl,?_⟩))
     go_loopg [7,33] k (fun kq v7 v33 w'=>∃ (x7_1 : List Int) (x33_1 : Int),v33 = .int .i64 x33_1∧Aside0 (euclid_Profile.l0 kq l0 l1 (l0.length : Int) x7_1 ji10 x33_1 = some (r1,r2))∧Aside0 (kq ≤ k)∧Aside0 (Kd.R (Kd.int .i64) 3 w' w.heap.size (fun _=>True) v7 x7_1)∧Aside0 (Below w.heap.size w w'))
     case atStart=>exact ⟨(([] : List Int)),(0),(by first|rfl|(simp;done)|(simp [*];done)),H',⟨Nat.le_refl _⟩,⟨by first|exact Kd.R_nil _ _ _ _ _|exact Kd.N_nil _ _ _ _ _|exact Kd.V_nil _ _ _ _ _|exact Kd.Q_nil _ _ _ _ _|exact Kd.S_nil _ _ _ _ _⟩,⟨by repeat (first|(with_reducible first|exact HB.out|apply ba|apply bb|apply bc)|exact HB.out)⟩⟩
     case round =>
      clear H'
      try clear c1
      try clear c2
      try clear p2
      try clear c3
      try clear c4
      try clear c6
      try clear p6
      try clear c7
      try clear c7b0
      try clear c7b1
      try clear c9
      obtain ⟨x7_1,x33_1,rfl,HA,HK1,HO_7,HB⟩:=hrel
      cases gk with
      | zero=>exact absurd HA.out (by simp [euclid_Profile.l0])
      | succ k1 =>
       have H:=HA.out
       clear HA
       simp only [euclid_Profile.l0] at H
       by_cases c11 : x33_1 < ji10
       ·
        rw [if_pos c11] at H
        have c11b0 : decide (x33_1 < ji10) = true:=decide_eq_true c11
        clear c11
        by_cases c12 : 0 ≤ x33_1
        ·
         rw [if_pos c12] at H
         have c12b0:=eq_true c12
         have c12b1 : decide (0 ≤ x33_1) = true:=decide_eq_true c12
         clear c12
         by_cases c13 : x33_1 ≤ (wrap64 (x33_1 + (l0.length : Int)))
         ·
          rw [if_pos c13] at H
          have c13b0:=eq_true c13
          have c13b1 : decide (x33_1 ≤ (wrap64 (x33_1 + (l0.length : Int)))) = true:=decide_eq_true c13
          by_cases c14 : (wrap64 (x33_1 + (l0.length : Int))) ≤ (l1.length : Int)
          ·
           rw [if_pos c14] at H
           have c14b0:=eq_true c14
           have c14b1 : decide ((wrap64 (x33_1 + (l0.length : Int))) ≤ (l1.length : Int)) = true:=decide_eq_true c14
           replace H:=Option.bind_eq_some_iff.mp H
           obtain ⟨t236,A150,H⟩:=H
           replace H : (if x7_1.length < 17592186044416 then (euclid_Profile.l0 k1 l0 l1 (l0.length : Int) (x7_1 ++ [t236]) ji10 (wrap64 (x33_1 + 1))) else (none)) = some (r1,r2):=H
           have A15:=A_ A150
           clear A150
           by_cases c16 : x7_1.length < 17592186044416
           ·
            rw [if_pos c16] at H
            have LMc16:=A_ c16
            clear c16
            obtain ⟨y237,hy237⟩ : ∃ y_ : List Int,y_ = (x7_1 ++ [t236]):=⟨_,rfl⟩
            replace H : (euclid_Profile.l0 k1 l0 l1 (l0.length : Int) y237 ji10 (wrap64 (x33_1 + 1))) = some (r1,r2):=by first|(rw [hy237];with_reducible exact H)|(have H2_:=(Option.bind_some _ _).symm.trans H;rw [hy237];with_reducible exact H2_)|(have H2_:=(Option.bind_some _ _).symm.trans H;with_reducible exact H2_)|with_reducible exact H|(rw [hy237];exact H)|exact H
            have Ny237:=A_ hy237
            clear hy237
            have H':=A_ H
            clear H
            obtain ⟨i017,hi017,_,hsz17,_⟩:=info_parts info3
            obtain ⟨A17,hcut17,hA17,hC17⟩:=print_mid3_of (P:=Try.prog) (Value.int .i64) 0 22 3 .i64 .i64 Try.underlying22 hi017 hsz17 A1 c1 l1 x33_1 (wrap64 (x33_1 + (l0.length : Int))) (of_decide_eq_true (by first|(with_reducible assumption)|assumption)) (by first|omega|exact of_decide_eq_true (by first|(with_reducible assumption)|assumption)) (of_decide_eq_true (by first|(with_reducible assumption)|assumption)) HC1.out
            have HR235:=A_ (Kd.C_of_reads (h1:=fun _=>rfl) (hA17 _ (Kd.reads_of_C HR1.out)))
            have HC235:=A_ hC17
            clear hA17 hC17 hi017 hsz17
            go_wp2_with (first|((with_reducible refine gate_callee (f:=33) rfl ?_);refine goesL_ (some 47) rfl rfl Try.func33 (by kernel_rfl) rfl #[.slice A0 l0.length c0,.slice A17 ((l1.take ((wrap64 (x33_1 + (l0.length : Int))) : Int).toNat).drop (x33_1 : Int).toNat).length ((wrap64 (x33_1 + (l0.length : Int))).toNat - x33_1.toNat)] rfl (by (try simp only [List.map_toArray,List.map_cons,List.map_nil]);first|done|(rw [show ((l1.take ((wrap64 (x33_1 + (l0.length : Int))) : Int).toNat).drop (x33_1 : Int).toNat).length = ((wrap64 (x33_1 + (l0.length : Int))).toNat - x33_1.toNat) from (by rw [List.length_drop,List.length_take];have h_ : ((wrap64 (x33_1 + (l0.length : Int))) : Int) ≤ (l1.length : Int):=of_decide_eq_true (by first|(with_reducible assumption)|assumption);omega)] <;> rfl)|rfl|(simp only [List.length_drop,List.length_take];rfl)) ?_;(with_reducible refine (euclid_square.calls k1 _ _ l0 _ _ ((l1.take ((wrap64 (x33_1 + (l0.length : Int))) : Int).toNat).drop (x33_1 : Int).toNat) t236 _ ?side1 ?side2 ?side3 ?side4 A15.out).mono ?_);(case side1=>repeat (first|exact (cl HR0.out HB.out)|(with_reducible refine ca ?_ _)|(with_reducible refine cb ?_ _)|(with_reducible refine cc ?_)));(case side2=>exact HC0.out);(case side3=>repeat (first|exact (cl HR235.out HB.out)|(with_reducible refine ca ?_ _)|(with_reducible refine cb ?_ _)|(with_reducible refine cc ?_)));(case side4=>exact HC235.out);rintro e w' ⟨rfl,⟨nd,rfl⟩⟩;refine ⟨_,rfl,?_⟩)|((with_reducible refine gate_builtin (b:=.append) (xs:=#[.tmp 36,.tmp 48]) rfl ?_);at_builtin;refine Kd.R_append (Kd.int .i64) (w0:=w) w.heap.size rfl (.tmp 36) (.tmp 48) 22 3 (.int .i64 0) 8 rfl Try.underlying22 info3 rfl (by decide) (by omega) u7 x7_1 t236 [.int .i64 t236] (fun _=>True) (fun _=>False) rfl rfl ?aP (fun _ hk=>hk.elim) ?aF ?aO ?aB ?aS ?aL ?_;(case aP=>exact rfl);(case aB=>exact (by repeat (first|(with_reducible first|exact HB.out|apply ba|apply bb|apply bc)|exact HB.out)));(case aF=>exact (fun _ _=>trivial));(case aO=>exact (by (with_reducible repeat (first|apply ra|apply rb|apply rc));exact HO_7.out));(case aS=>exact (below_size (by repeat (first|(with_reducible first|exact HB.out|apply ba|apply bb|apply bc)|exact HB.out))));(case aL=>have:=LMc16.out;omega);intro v238 w18 ho hb hg hat;rw [← Ny237.out] at ho;have n0_:=A_ (hb);have n1_:=A_ (ho);clear HB;clear HO_7;have HB:=n0_;have HO239:=n1_;clear n0_ n1_;clear ho hb hg hat))
            go_roundg k1
            case measure=>have:=HK1.out;omega
            case rel=>exact ⟨(y237),(wrap64 (x33_1 + 1)),(by first|rfl|(simp;done)|(simp [*];done)),H',⟨by have:=HK1.out;omega⟩,⟨by (with_reducible repeat (first|apply ra|apply rb|apply rc));exact HO239.out⟩,⟨by repeat (first|(with_reducible first|exact HB.out|apply ba|apply bb|apply bc)|exact HB.out)⟩⟩
           ·
            rw [if_neg c16] at H
            exact absurd H (by simp)
          ·
           rw [if_neg c14] at H
           exact absurd H (by simp)
         ·
          rw [if_neg c13] at H
          exact absurd H (by simp)
        ·
         rw [if_neg c12] at H
         exact absurd H (by simp)
       ·
        rw [if_neg c11] at H
        have c11b0 : decide (x33_1 < ji10) = false:=decide_eq_false c11
        clear c11
        simp only [Option.some.injEq,Prod.mk.injEq] at H
        obtain ⟨rfl,rfl⟩:=H
        go_wp2
        go_ret2
        exact ⟨_,by first|rfl|(simp [errW_none,errW_some] <;> rfl)|(simp only [← hji10];first|rfl|(simp [errW_none,errW_some] <;> rfl))|(simp [*,errW_none,errW_some] <;> rfl),by (with_reducible repeat (first|apply ra|apply rb|apply rc));exact HO_7.out,by repeat (first|(with_reducible first|exact HB.out|apply ba|apply bb|apply bc)|exact HB.out)⟩
    ·
     replace c9:=Bool.eq_false_iff.mpr c9
     subst c9
     have H1 : (some (([] : List Int),12)) = some (r1,r2):=by rw [if_neg (show ¬ (false = true) by decide)] at H;exact H
     clear H
     have H:=H1
     clear H1
     simp only [Option.some.injEq,Prod.mk.injEq] at H
     obtain ⟨rfl,rfl⟩:=H
     go_enter Try.func22,Try.ntmps22
     go_wp2_with (first|((with_reducible refine gate_callee (f:=38) rfl ?_);refine goesL_ (some 11) rfl rfl Try.func38 (by kernel_rfl) rfl #[.slice A0 l0.length c0] rfl (by (try simp only [List.map_toArray,List.map_cons,List.map_nil]);first|done|rfl|(simp only [List.length_drop,List.length_take];rfl)) ?_;(with_reducible refine (euclid_length.calls _ _ l0 true _ ?side1 ?side2 A3.out).mono ?_);(case side1=>repeat (first|exact HR0.out|(with_reducible refine ca ?_ _)|(with_reducible refine cb ?_ _)|(with_reducible refine cc ?_)));(case side2=>exact HC0.out);rintro e w' ⟨rfl,⟨nd,rfl⟩⟩;refine ⟨_,rfl,?_⟩)|((with_reducible refine gate_callee (f:=39) rfl ?_);refine goesL_ (some 15) rfl rfl Try.func39 (by kernel_rfl) rfl #[.slice A0 l0.length c0] rfl (by (try simp only [List.map_toArray,List.map_cons,List.map_nil]);first|done|rfl|(simp only [List.length_drop,List.length_take];rfl)) ?_;(with_reducible refine (euclid_samples.calls k _ _ l0 true _ ?side1 ?side2 A5.out).mono ?_);(case side1=>repeat (first|exact HR0.out|(with_reducible refine ca ?_ _)|(with_reducible refine cb ?_ _)|(with_reducible refine cc ?_)));(case side2=>exact HC0.out);rintro e w' ⟨rfl,⟨nd,rfl⟩⟩;refine ⟨_,rfl,?_⟩)|((with_reducible refine gate_callee (f:=39) rfl ?_);refine goesL_ (some 23) rfl rfl Try.func39 (by kernel_rfl) rfl #[.slice A1 l1.length c1] rfl (by (try simp only [List.map_toArray,List.map_cons,List.map_nil]);first|done|rfl|(simp only [List.length_drop,List.length_take];rfl)) ?_;(with_reducible refine (euclid_samples.calls k _ _ l1 false _ ?side1 ?side2 A8.out).mono ?_);(case side1=>repeat (first|exact HR1.out|(with_reducible refine ca ?_ _)|(with_reducible refine cb ?_ _)|(with_reducible refine cc ?_)));(case side2=>exact HC1.out);rintro e w' ⟨rfl,⟨nd,rfl⟩⟩;refine ⟨_,rfl,?_⟩))
     go_ret2
     exact ⟨_,by first|rfl|(simp [errW_none,errW_some] <;> rfl)|(simp [*,errW_none,errW_some] <;> rfl),by first|exact Kd.R_nil _ _ _ _ _|exact Kd.N_nil _ _ _ _ _|exact Kd.V_nil _ _ _ _ _|exact Kd.Q_nil _ _ _ _ _|exact Kd.S_nil _ _ _ _ _,by repeat (first|(with_reducible first|exact HB.out|apply ba|apply bb|apply bc)|exact HB.out)⟩
  ·
   replace c6:=Bool.eq_false_iff.mpr c6
   subst c6
   have H1 : (some (([] : List Int),12)) = some (r1,r2):=by rw [if_neg (show ¬ (false = true) by decide)] at H;exact H
   clear H
   have H:=H1
   clear H1
   simp only [Option.some.injEq,Prod.mk.injEq] at H
   obtain ⟨rfl,rfl⟩:=H
   go_enter Try.func22,Try.ntmps22
   go_wp2_with (first|((with_reducible refine gate_callee (f:=38) rfl ?_);refine goesL_ (some 11) rfl rfl Try.func38 (by kernel_rfl) rfl #[.slice A0 l0.length c0] rfl (by (try simp only [List.map_toArray,List.map_cons,List.map_nil]);first|done|rfl|(simp only [List.length_drop,List.length_take];rfl)) ?_;(with_reducible refine (euclid_length.calls _ _ l0 true _ ?side1 ?side2 A3.out).mono ?_);(case side1=>repeat (first|exact HR0.out|(with_reducible refine ca ?_ _)|(with_reducible refine cb ?_ _)|(with_reducible refine cc ?_)));(case side2=>exact HC0.out);rintro e w' ⟨rfl,⟨nd,rfl⟩⟩;refine ⟨_,rfl,?_⟩)|((with_reducible refine gate_callee (f:=39) rfl ?_);refine goesL_ (some 15) rfl rfl Try.func39 (by kernel_rfl) rfl #[.slice A0 l0.length c0] rfl (by (try simp only [List.map_toArray,List.map_cons,List.map_nil]);first|done|rfl|(simp only [List.length_drop,List.length_take];rfl)) ?_;(with_reducible refine (euclid_samples.calls k _ _ l0 false _ ?side1 ?side2 A5.out).mono ?_);(case side1=>repeat (first|exact HR0.out|(with_reducible refine ca ?_ _)|(with_reducible refine cb ?_ _)|(with_reducible refine cc ?_)));(case side2=>exact HC0.out);rintro e w' ⟨rfl,⟨nd,rfl⟩⟩;refine ⟨_,rfl,?_⟩))
   go_ret2
   exact ⟨_,by first|rfl|(simp [errW_none,errW_some] <;> rfl)|(simp [*,errW_none,errW_some] <;> rfl),by first|exact Kd.R_nil _ _ _ _ _|exact Kd.N_nil _ _ _ _ _|exact Kd.V_nil _ _ _ _ _|exact Kd.Q_nil _ _ _ _ _|exact Kd.S_nil _ _ _ _ _,by repeat (first|(with_reducible first|exact HB.out|apply ba|apply bb|apply bc)|exact HB.out)⟩
 ·
  replace c4:=Bool.eq_false_iff.mpr c4
  subst c4
  have H1 : (some (([] : List Int),8)) = some (r1,r2):=by rw [if_neg (show ¬ (false = true) by decide)] at H;exact H
  clear H
  have H:=H1
  clear H1
  simp only [Option.some.injEq,Prod.mk.injEq] at H
  obtain ⟨rfl,rfl⟩:=H
  go_enter Try.func22,Try.ntmps22
  go_wp2_with (first|((with_reducible refine gate_callee (f:=38) rfl ?_);refine goesL_ (some 11) rfl rfl Try.func38 (by kernel_rfl) rfl #[.slice A0 l0.length c0] rfl (by (try simp only [List.map_toArray,List.map_cons,List.map_nil]);first|done|rfl|(simp only [List.length_drop,List.length_take];rfl)) ?_;(with_reducible refine (euclid_length.calls _ _ l0 false _ ?side1 ?side2 A3.out).mono ?_);(case side1=>repeat (first|exact HR0.out|(with_reducible refine ca ?_ _)|(with_reducible refine cb ?_ _)|(with_reducible refine cc ?_)));(case side2=>exact HC0.out);rintro e w' ⟨rfl,⟨nd,rfl⟩⟩;refine ⟨_,rfl,?_⟩))
  go_ret2
  exact ⟨_,by first|rfl|(simp [errW_none,errW_some] <;> rfl)|(simp [*,errW_none,errW_some] <;> rfl),by first|exact Kd.R_nil _ _ _ _ _|exact Kd.N_nil _ _ _ _ _|exact Kd.V_nil _ _ _ _ _|exact Kd.Q_nil _ _ _ _ _|exact Kd.S_nil _ _ _ _ _,by repeat (first|(with_reducible first|exact HB.out|apply ba|apply bb|apply bc)|exact HB.out)⟩

end Go.Proofs.Ytmkjmplkokfoiaa.PEuclidAnswers
