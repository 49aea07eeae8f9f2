/- This file proves, function by function, what the Go functions that one law uses compute; most of it was printed by a program (wip/tools of this session, over the kit's print). -/
import Derived.Test.YtmckmjpfcgmalaaPNormalRangex0
import Derived.Test.YtmckmjpfcgmalaaPNormalRangex4
namespace Go.Proofs.Ytmckmjpfcgmalaa.PNormalRange
open Go.RowKit Go.Proofs.YtmckmjpfcgmalaaW.PrintWords Go.Proofs.YtmckmjpfcgmalaaW.PrintLast Go.Proofs.YtmckmjpfcgmalaaW.PrintMore
attribute [local go_sem] max2_int min2_int max_two min_two max_three min_three max_four min_four   -- for this text's walks alone
set_option linter.unusedVariables false
set_option linter.unusedSimpArgs false

/-! ### ratio_Make: function 54 -/
def ratio_Make.j0 : Nat → Int → Int → Bool → Option (Int × Int × Int)
 | 0,_,_,_=>none
 | k + 1,x0,x1,x13=>if x13 = true then (some (0,0,1)) else ((ratio_divisor.f k x0 x1).bind fun t226=>(if t226 = 0 then (none) else ((ratio_within.f (wrap64 (Int.tdiv x0 t226)) (wrap64 (Int.tdiv x1 t226))).bind fun t228=>(if t228 = true then (some (wrap64 (Int.tdiv x0 t226),wrap64 (Int.tdiv x1 t226),0)) else (some (0,0,1))))))
def ratio_Make.f (k : Nat) (a0 : Int) (a1 : Int) : Option (Int × Int × Int):=if a0 < 0 then (ratio_Make.j0 k a0 a1 true) else (ratio_Make.j0 k a0 a1 (decide (a1 < 1)))
theorem ratio_Make.mono_l : ∀ k,(∀ y0 y1 y2,LeO (ratio_Make.j0 k y0 y1 y2) (ratio_Make.j0 (k + 1) y0 y1 y2))
 | 0=>fun _ _ _ r h=>by simp [ratio_Make.j0] at h
 | k + 1=>by
  have ih0:=ratio_Make.mono_l k
  ·
   intro y0 y1 y2
   unfold ratio_Make.j0
   repeat' first
   | (with_reducible exact ih0 _ _ _)
   | (with_reducible exact ratio_divisor.mono _ _ _)
   | (with_reducible exact LeO.refl _)
   | (with_reducible exact LeO.none _)
   | (with_reducible refine LeO.ite ?_ ?_)
   | (with_reducible refine LeO.bind ?_ (fun _=>?_))
   | exact ih0 _ _ _
   | exact ratio_divisor.mono _ _ _
   | exact LeO.none _
   | refine LeO.ite ?_ ?_
   | refine LeO.bind ?_ (fun _=>?_)
theorem ratio_Make.mono : ∀ a0 a1 k,LeO (ratio_Make.f k a0 a1) (ratio_Make.f (k + 1) a0 a1):=by
 intro a0 a1 k
 have ih0:=ratio_Make.mono_l k
 unfold ratio_Make.f
 repeat' first
   | (with_reducible exact ih0 _ _ _)
   | (with_reducible exact ratio_divisor.mono _ _ _)
   | (with_reducible exact LeO.refl _)
   | (with_reducible exact LeO.none _)
   | (with_reducible refine LeO.ite ?_ ?_)
   | (with_reducible refine LeO.bind ?_ (fun _=>?_))
   | exact ih0 _ _ _
   | exact ratio_divisor.mono _ _ _
   | exact LeO.none _
   | refine LeO.ite ?_ ?_
   | refine LeO.bind ?_ (fun _=>?_)
def ratio_Make.T4 : Bool × List (List Nat × List Nat):=(true,[([],[]),([],[]),([0,1],[0,1]),([],[]),([],[]),([3,4],[3,4]),([2,5],[2,5]),([],[]),([7,6,0,1,2,3,4,5,6,7],[6,7])])
def ratio_Make.B4 : List Nat:=[0,0,3,0,0,24,63,0,255]
theorem ratio_Make.tab4 : rtab .any (opsOf Try.f54 4) = ratio_Make.T4:=by kernel_rfl
theorem ratio_Make.bits4 : waitsOk ratio_Make.T4.2 ratio_Make.B4 = true:=by kernel_rfl
set_option maxHeartbeats 8000000 in
set_option maxRecDepth 100000 in
theorem ratio_Make.calls (k : Nat) (a0 : Int) (a1 : Int) (r1 : Int) (r2 : Int) (r3 : Int) (w : World) (h : ratio_Make.f k a0 a1 = some (r1,r2,r3)) :
  Calls Try.prog 54 #[.int .i64 a0,.int .i64 a1] w fun e w'=>e = .returned (.tuple #[.agg #[.int .i64 r1,.int .i64 r2],.int .i64 r3])∧Below w.heap.size w w':=by
 have hu29:=Try.underlying29
 have HB:=A_ (Below.refl w.heap.size w)
 have H : (if a0 < 0 then (ratio_Make.j0 k a0 a1 true) else (ratio_Make.j0 k a0 a1 (decide (a1 < 1)))) = some (r1,r2,r3):=h
 clear h
 have HC3:=A_ H
 clear H
 go_enter Try.func54,Try.ntmps54
 go_upto_region 1 with (first|((with_reducible refine gate_dst (N:=4) rfl ?_);refine box_event ?hg (N:=4) ?hd (cs:=#[.int .i64 0,.int .i64 0]) (t:=29) ?hr ?_;(case hd=>rfl);(case hg=>rfl);(case hr=>first|(go_simp;done)|(go_simp;rfl));intro gb225 hg w4 hbox hb;have n0_:=A_ (below_step (by repeat (first|(with_reducible first|exact HB.out|apply ba|apply bb|apply bc)|exact HB.out)) hb);have n1_:=A_ (hbox);have n2_:=A_ ((by rw [hg];exact (below_size (by repeat (first|(with_reducible first|exact HB.out|apply ba|apply bb|apply bc)|exact HB.out))) : w.heap.size ≤ gb225));have n3_:=A_ ((by rw [hg];exact (below_size (by repeat (first|(with_reducible first|exact HB.out|apply ba|apply bb|apply bc)|exact HB.out))) : w.heap.size ≤ gb225));clear HB;have HB:=n0_;have BK225:=n1_;have GW225:=n2_;have GE225:=n3_;clear n0_ n1_ n2_ n3_;clear hb hbox hg))
 (try simp only [Act.put,List.setIfInBounds_toArray,List.set_cons_zero,List.set_cons_succ])
 go_cut [13] (fun v13 wc=>∃ (kq : Nat) (x13_2 : Bool),v13 = .bool x13_2∧Aside0 (ratio_Make.j0 kq a0 a1 x13_2 = some (r1,r2,r3))∧Aside0 (kq ≤ k)∧Aside0 (wc.heap[gb225]? = some (.cells #[.int .i64 0,.int .i64 0] 29 (0,0)))∧Aside0 (Below w.heap.size w wc))
 case first =>
  have H:=HC3.out
  clear HC3
  by_cases c5 : a0 < 0
  ·
   rw [if_pos c5] at H
   have c5b0 : decide (a0 < 0) = true:=decide_eq_true c5
   clear c5
   (first|rw [c5b0]|(simp only [i64_w,i32_w];rw [c5b0])|skip)
   have H':=A_ H
   clear H
   go_wp2
   go_meet
   case rel=>exact ⟨_,(true),(by first|rfl|(simp;done)|(simp [*];done)),H',⟨by first|omega|exact Nat.le_refl _⟩,⟨by (with_reducible repeat (first|refine blk_drewN ?_ _|refine blk_drew ?_|refine blk_alloc ?_ _));exact BK225.out⟩,⟨by repeat (first|(with_reducible first|exact HB.out|apply ba|apply bb|apply bc|refine below_set ?_ GE225.out)|exact HB.out)⟩⟩
  ·
   rw [if_neg c5] at H
   have c5b0 : decide (a0 < 0) = false:=decide_eq_false c5
   clear c5
   (first|rw [c5b0]|(simp only [i64_w,i32_w];rw [c5b0])|skip)
   have H':=A_ H
   clear H
   go_wp2
   go_meet
   case rel=>exact ⟨_,(decide (a1 < 1)),(by first|rfl|(simp;done)|(simp [*];done)),H',⟨by first|omega|exact Nat.le_refl _⟩,⟨by (with_reducible repeat (first|refine blk_drewN ?_ _|refine blk_drew ?_|refine blk_alloc ?_ _));exact BK225.out⟩,⟨by repeat (first|(with_reducible first|exact HB.out|apply ba|apply bb|apply bc|refine below_set ?_ GE225.out)|exact HB.out)⟩⟩
 case rest =>
  clear HC3
  try clear p2
  try clear c5
  try clear c5b0
  obtain ⟨kq,x13_2,rfl,HA,HJ2,BK225,HB⟩:=hcut
  cases kq with
  | zero=>exact absurd HA.out (by simp [ratio_Make.j0])
  | succ kj2 =>
   have H:=HA.out
   clear HA
   simp only [ratio_Make.j0] at H
   by_cases c6 : x13_2 = true
   ·
    subst c6
    have H1 : (some (0,0,1)) = some (r1,r2,r3):=by rw [if_pos rfl] at H;exact H
    clear H
    have H:=H1
    clear H1
    simp only [Option.some.injEq,Prod.mk.injEq] at H
    obtain ⟨rfl,rfl,rfl⟩:=H
    have hcz7_0 : wc.cell? ⟨gb225,0,none⟩ = some (.int .i64 0):=(blk_cell BK225.out 0).trans rfl
    have hcz7_1 : wc.cell? ⟨gb225,1,none⟩ = some (.int .i64 0):=(blk_cell BK225.out 1).trans rfl
    have hfz7_0:=blk_frozen BK225.out 0
    have hfz7_1:=blk_frozen BK225.out 1
    go_wp2
    refine bodyPost_ret (results_ct rfl _ _ gb225 29 #[.int .i64 0,.int .i64 0] (0,0) _ rfl (by (with_reducible repeat (first|refine blk_drewN ?_ _|refine blk_drew ?_|refine blk_alloc ?_ _));refine blk_put (cs:=#[.int .i64 0,.int .i64 0]) ?_ 1 _ rfl;(with_reducible repeat (first|refine blk_drewN ?_ _|refine blk_drew ?_|refine blk_alloc ?_ _));refine blk_put (cs:=#[.int .i64 0,.int .i64 0]) ?_ 0 _ rfl;(with_reducible repeat (first|refine blk_drewN ?_ _|refine blk_drew ?_|refine blk_alloc ?_ _));exact BK225.out) Try.underlying29 rfl (by kernel_rfl)) rfl ?_
    exact ⟨by first|rfl|(simp [errW_none,errW_some] <;> rfl)|(simp [*,errW_none,errW_some] <;> rfl),by repeat (first|(with_reducible first|exact HB.out|apply ba|apply bb|apply bc|refine below_set ?_ GE225.out)|exact HB.out)⟩
   ·
    replace c6:=Bool.eq_false_iff.mpr c6
    subst c6
    have H1 : ((ratio_divisor.f kj2 a0 a1).bind fun t226=>(if t226 = 0 then (none) else ((ratio_within.f (wrap64 (Int.tdiv a0 t226)) (wrap64 (Int.tdiv a1 t226))).bind fun t228=>(if t228 = true then (some (wrap64 (Int.tdiv a0 t226),wrap64 (Int.tdiv a1 t226),0)) else (some (0,0,1)))))) = some (r1,r2,r3):=by rw [if_neg (show ¬ (false = true) by decide)] at H;exact H
    clear H
    have H:=H1
    clear H1
    replace H:=Option.bind_eq_some_iff.mp H
    obtain ⟨t226,A80,H⟩:=H
    replace H : (if t226 = 0 then (none) else ((ratio_within.f (wrap64 (Int.tdiv a0 t226)) (wrap64 (Int.tdiv a1 t226))).bind fun t228=>(if t228 = true then (some (wrap64 (Int.tdiv a0 t226),wrap64 (Int.tdiv a1 t226),0)) else (some (0,0,1))))) = some (r1,r2,r3):=H
    have A8:=A_ A80
    clear A80
    by_cases c9 : t226 = 0
    ·
     rw [if_pos c9] at H
     exact absurd H (by simp)
    ·
     rw [if_neg c9] at H
     have c9b0 : (t226 == 0) = false:=beq_eq_false_iff_ne.mpr c9
     have c9b1 : (t226 != 0) = true:=bne_iff_ne.mpr c9
     replace H:=Option.bind_eq_some_iff.mp H
     obtain ⟨t228,A100,H⟩:=H
     replace H : (if t228 = true then (some (wrap64 (Int.tdiv a0 t226),wrap64 (Int.tdiv a1 t226),0)) else (some (0,0,1))) = some (r1,r2,r3):=H
     have A10:=A_ A100
     clear A100
     by_cases c11 : t228 = true
     ·
      subst c11
      have H1 : (some (wrap64 (Int.tdiv a0 t226),wrap64 (Int.tdiv a1 t226),0)) = some (r1,r2,r3):=by rw [if_pos rfl] at H;exact H
      clear H
      have H:=H1
      clear H1
      simp only [Option.some.injEq,Prod.mk.injEq] at H
      obtain ⟨rfl,rfl,rfl⟩:=H
      try go_wp2_with (first|((with_reducible refine gate_callee (f:=78) rfl ?_);refine goesL_ (some 17) rfl rfl Try.func78 (by kernel_rfl) rfl #[.int .i64 a0,.int .i64 a1] rfl (by (try simp only [List.map_toArray,List.map_cons,List.map_nil]);first|done|rfl|(simp only [List.length_drop,List.length_take];rfl)) ?_;(with_reducible refine (ratio_divisor.calls kj2 a0 a1 t226 _ A8.out).mono ?_);rintro e w' ⟨rfl,⟨nd,rfl⟩⟩;refine ⟨_,rfl,?_⟩;(try (rw [drewN_self wc];generalize hq_ : World.drewN wc _ = wc;have n0_ : Aside0 (wc.heap[gb225]? = some (.cells #[.int .i64 0,.int .i64 0] 29 (0,0))):=⟨by rw [← hq_];exact (by (with_reducible repeat (first|refine blk_drewN ?_ _|refine blk_drew ?_|refine blk_alloc ?_ _));exact BK225.out)⟩;have n1_ : Aside0 (Below w.heap.size w wc):=⟨by rw [← hq_];exact (by repeat (first|(with_reducible first|exact HB.out|apply ba|apply bb|apply bc|refine below_set ?_ GE225.out)|exact HB.out))⟩;clear BK225 HB hq_;have BK225:=n0_;have HB:=n1_;clear n0_ n1_))))
      (try (rw [drewN_self wc];generalize hq_ : World.drewN wc _ = wc;have n0_ : Aside0 (wc.heap[gb225]? = some (.cells #[.int .i64 0,.int .i64 0] 29 (0,0))):=⟨by rw [← hq_];exact (by (with_reducible repeat (first|refine blk_drewN ?_ _|refine blk_drew ?_|refine blk_alloc ?_ _));exact BK225.out)⟩;have n1_ : Aside0 (Below w.heap.size w wc):=⟨by rw [← hq_];exact (by repeat (first|(with_reducible first|exact HB.out|apply ba|apply bb|apply bc|refine below_set ?_ GE225.out)|exact HB.out))⟩;clear BK225 HB hq_;have BK225:=n0_;have HB:=n1_;clear n0_ n1_))
      have n0_:=A_ (blk_drew BK225.out)
      have n1_:=A_ (below_drew1 HB.out)
      clear BK225
      clear HB
      have BK225:=n0_
      have HB:=n1_
      clear n0_ n1_
      refine start_ (n:=9) (S:=fun w'=>True) (ds:=[]) #[false,false,false,false,false,false,false,false,false] (by kernel_rfl) rfl rfl trivial (fun hHeld=>?_);refine with_tabW ratio_Make.tab4 ratio_Make.bits4 (fun HT_ HW_=>?_)
      generalize wc.drew = w12 at BK225 HB hHeld ⊢
      refine pure_ (i:=0) (N:=some 18) (v:=?_) (a':=?_) #[true,false,false,false,false,false,false,false,false] rfl rfl (any_of HT_.out (by kernel_rfl)) (fun _ _ _ h=>h) (Or.inl ⟨by rfl,?_⟩) ?_ ?_
      rotate_left
      ·
       intro w'
       go_simp
       with_reducible rfl
      rotate_left
      ·
       simp only [Act.put,sa,sb,sc,i64_w,i32_w]
       rfl
      refine pure_ (i:=1) (N:=some 19) (v:=?_) (a':=?_) #[true,true,false,false,false,false,false,false,false] rfl rfl (any_of HT_.out (by kernel_rfl)) (fun _ _ _ h=>h) (Or.inl ⟨by rfl,?_⟩) ?_ ?_
      rotate_left
      ·
       intro w'
       go_simp
       with_reducible rfl
      rotate_left
      ·
       simp only [Act.put,sa,sb,sc,i64_w,i32_w]
       rfl
      refine pure_ (i:=2) (N:=some 20) (v:=?_) (a':=?_) #[true,true,true,false,false,false,false,false,false] rfl rfl (any_of HT_.out (by kernel_rfl)) (fun _ _ _ h=>h) (Or.inl ⟨by rfl,?_⟩) ?_ ?_
      rotate_left
      ·
       intro w'
       go_simp
       with_reducible rfl
      rotate_left
      ·
       simp only [Act.put,sa,sb,sc,i64_w,i32_w]
       rfl
      refine pure_ (i:=3) (N:=some 21) (v:=?_) (a':=?_) #[true,true,true,true,false,false,false,false,false] rfl rfl (any_of HT_.out (by kernel_rfl)) (fun _ _ _ h=>h) (Or.inl ⟨by rfl,?_⟩) ?_ ?_
      rotate_left
      ·
       intro w'
       go_simp
       with_reducible rfl
      rotate_left
      ·
       simp only [Act.put,sa,sb,sc,i64_w,i32_w]
       rfl
      refine pure_ (i:=4) (N:=some 22) (v:=?_) (a':=?_) #[true,true,true,true,true,false,false,false,false] rfl rfl (any_of HT_.out (by kernel_rfl)) (fun _ _ _ h=>h) (Or.inl ⟨by rfl,?_⟩) ?_ ?_
      rotate_left
      ·
       intro w'
       go_simp
       with_reducible rfl
      rotate_left
      ·
       simp only [Act.put,sa,sb,sc,i64_w,i32_w]
       rfl
      refine pure_ (i:=5) (N:=some 23) (v:=?_) (a':=?_) #[true,true,true,true,true,true,false,false,false] rfl rfl (any_of HT_.out (by kernel_rfl)) (fun _ _ _ h=>h) (Or.inl ⟨by rfl,?_⟩) ?_ ?_
      rotate_left
      ·
       intro w'
       go_simp
       with_reducible rfl
      rotate_left
      ·
       simp only [Act.put,sa,sb,sc,i64_w,i32_w]
       rfl
      refine pure_ (i:=6) (N:=some 24) (v:=?_) (a':=?_) #[true,true,true,true,true,true,true,false,false] rfl rfl (any_of HT_.out (by kernel_rfl)) (fun _ _ _ h=>h) (Or.inl ⟨by rfl,?_⟩) ?_ ?_
      rotate_left
      ·
       intro w'
       go_simp
       with_reducible rfl
      rotate_left
      ·
       simp only [Act.put,sa,sb,sc,i64_w,i32_w]
       rfl
      refine one_ (i:=7) (N:=some 7) #[true,true,true,true,true,true,true,true,false] rfl rfl (one_of HT_.out (by kernel_rfl)) (by decide) (fun K hK=>?_)
      refine box_step ?hg (N:=7) ?hd (cs:=#[.int .i64 0,.int .i64 0]) (t:=29) ?hr ?_;(case hd=>rfl);(case hg=>rfl);(case hr=>first|(go_simp;done)|(go_simp;rfl))
      intro gb227 hg w13 hbox hb
      have n0_:=A_ (blk_below (g:=gb225) (o:=.cells #[.int .i64 0,.int .i64 0] 29 (0,0)) (by (with_reducible repeat (first|refine blk_drewN ?_ _|refine blk_drew ?_|refine blk_alloc ?_ _));exact BK225.out) hb)
      have n1_:=A_ (below_step (by repeat (first|(with_reducible first|exact HB.out|apply ba|apply bb|apply bc|refine below_set ?_ GE225.out)|exact HB.out)) hb)
      have n2_:=A_ (hbox)
      have n3_:=A_ ((by rw [hg];exact (below_size (by repeat (first|(with_reducible first|exact HB.out|apply ba|apply bb|apply bc|refine below_set ?_ GE225.out)|exact HB.out))) : w.heap.size ≤ gb227))
      have n4_:=A_ ((by rw [hg];exact (below_size (by repeat (first|(with_reducible first|exact HB.out|apply ba|apply bb|apply bc|refine below_set ?_ GE225.out)|exact HB.out))) : w.heap.size ≤ gb227))
      have n5_:=A_ ((by rw [hg];exact Nat.ne_of_lt (blk_lt (g:=gb225) (o:=.cells #[.int .i64 0,.int .i64 0] 29 (0,0)) (by (with_reducible repeat (first|refine blk_drewN ?_ _|refine blk_drew ?_|refine blk_alloc ?_ _));exact BK225.out)) : gb225≠gb227))
      have n6_:=A_ ((by rw [hg];exact Nat.ne_of_gt (blk_lt (g:=gb225) (o:=.cells #[.int .i64 0,.int .i64 0] 29 (0,0)) (by (with_reducible repeat (first|refine blk_drewN ?_ _|refine blk_drew ?_|refine blk_alloc ?_ _));exact BK225.out)) : gb227≠gb225))
      clear BK225
      clear HB
      have BK225:=n0_
      have HB:=n1_
      have BK227:=n2_
      have GW227:=n3_
      have GE227:=n4_
      have NB225_227:=n5_
      have NB227_225:=n6_
      clear n0_ n1_ n2_ n3_ n4_ n5_ n6_
      clear hb hbox hg
      refine hK.out _ _ trivial (fun hHeld=>?_)
      clear hK K
      refine norm_ (a':=?_) ?_ ?_
      rotate_left
      ·
       show Act.put _ (some 7) _ = _
       simp only [Act.put,sa,sb,sc,i64_w,i32_w]
       rfl
      refine one_ (i:=8) (N:=none) #[true,true,true,true,true,true,true,true,true] rfl rfl (one_of HT_.out (by kernel_rfl)) (by decide) (fun K hK=>?_)
      have hs14 : w13.cell? ⟨gb227,0,none⟩ = some (.int .i64 0):=(blk_cell BK227.out 0).trans rfl
      have hfs14:=blk_frozen BK227.out 0
      have hns14_0:=NB225_227.out
      have hms14_0:=NB227_225.out
      have hs15 : w13.cell? ⟨gb227,1,none⟩ = some (.int .i64 0):=(blk_cell BK227.out 1).trans rfl
      have hfs15:=blk_frozen BK227.out 1
      have hns15_0:=NB225_227.out
      have hms15_0:=NB227_225.out
      refine skip_ (w1:=?_) (by rfl) rfl ?_ ?_
      rotate_left
      ·
       go_simp
       rfl
      refine hK.out _ _ trivial (fun hHeld=>?_)
      clear hK K
      refine done_ (done_of HT_.out (by kernel_rfl)) ?_
      have hnb16:=NB227_225.out
      have hnc16:=NB225_227.out
      have hcz17_0 : w13.cell? ⟨gb227,0,none⟩ = some (.int .i64 0):=(blk_cell BK227.out 0).trans rfl
      have hcz17_1 : w13.cell? ⟨gb227,1,none⟩ = some (.int .i64 0):=(blk_cell BK227.out 1).trans rfl
      have hfz17_0:=blk_frozen BK227.out 0
      have hfz17_1:=blk_frozen BK227.out 1
      try go_wp2_with (first|((with_reducible refine gate_callee (f:=79) rfl ?_);refine goesL_ (some 26) rfl rfl Try.func79 (by kernel_rfl) rfl #[.agg #[.int .i64 (wrap64 (Int.tdiv a0 t226)),.int .i64 (wrap64 (Int.tdiv a1 t226))]] rfl (by (try simp only [List.map_toArray,List.map_cons,List.map_nil]);first|done|rfl|(simp only [List.length_drop,List.length_take];rfl)) ?_;(with_reducible refine (ratio_within.calls (wrap64 (Int.tdiv a0 t226)) (wrap64 (Int.tdiv a1 t226)) true _ A10.out).mono ?_);rintro e w18 ⟨rfl,hb⟩;refine ⟨_,rfl,?_⟩;have n0_:=A_ (blk_below (g:=gb225) (o:=.cells #[.int .i64 0,.int .i64 0] 29 (0,0)) (by (with_reducible repeat (first|refine blk_drewN ?_ _|refine blk_drew ?_|refine blk_alloc ?_ _));refine blk_far ?_ NB225_227.out _;(with_reducible repeat (first|refine blk_drewN ?_ _|refine blk_drew ?_|refine blk_alloc ?_ _));refine blk_far ?_ NB225_227.out _;(with_reducible repeat (first|refine blk_drewN ?_ _|refine blk_drew ?_|refine blk_alloc ?_ _));exact BK225.out) hb);have n1_:=A_ (blk_below (g:=gb227) (o:=.cells #[.int .i64 (wrap64 (Int.tdiv a0 t226)),.int .i64 (wrap64 (Int.tdiv a1 t226))] 29 (0,0)) (by (with_reducible repeat (first|refine blk_drewN ?_ _|refine blk_drew ?_|refine blk_alloc ?_ _));refine blk_put (cs:=#[.int .i64 (wrap64 (Int.tdiv a0 t226)),.int .i64 0]) ?_ 1 _ rfl;(with_reducible repeat (first|refine blk_drewN ?_ _|refine blk_drew ?_|refine blk_alloc ?_ _));refine blk_put (cs:=#[.int .i64 0,.int .i64 0]) ?_ 0 _ rfl;(with_reducible repeat (first|refine blk_drewN ?_ _|refine blk_drew ?_|refine blk_alloc ?_ _));exact BK227.out) hb);have n2_:=A_ (below_step (by repeat (first|(with_reducible first|exact HB.out|apply ba|apply bb|apply bc|refine below_set ?_ GE225.out|refine below_set ?_ GE227.out)|exact HB.out)) hb);clear BK225;clear BK227;clear HB;have BK225:=n0_;have BK227:=n1_;have HB:=n2_;clear n0_ n1_ n2_;(try clear hb);(try clear hb2);(try clear hk);(try clear hi);have hcz19_0 : w18.cell? ⟨gb227,0,none⟩ = some (.int .i64 (wrap64 (Int.tdiv a0 t226))):=(blk_cell BK227.out 0).trans rfl;have hcz19_1 : w18.cell? ⟨gb227,1,none⟩ = some (.int .i64 (wrap64 (Int.tdiv a1 t226))):=(blk_cell BK227.out 1).trans rfl;have hfz19_0:=blk_frozen BK227.out 0;have hfz19_1:=blk_frozen BK227.out 1;have hcz20_0 : w18.cell? ⟨gb225,0,none⟩ = some (.int .i64 0):=(blk_cell BK225.out 0).trans rfl;have hcz20_1 : w18.cell? ⟨gb225,1,none⟩ = some (.int .i64 0):=(blk_cell BK225.out 1).trans rfl;have hfz20_0:=blk_frozen BK225.out 0;have hfz20_1:=blk_frozen BK225.out 1))
      refine bodyPost_ret (results_ct rfl _ _ gb225 29 #[.int .i64 (wrap64 (Int.tdiv a0 t226)),.int .i64 (wrap64 (Int.tdiv a1 t226))] (0,0) _ rfl (by (with_reducible repeat (first|refine blk_drewN ?_ _|refine blk_drew ?_|refine blk_alloc ?_ _));refine blk_put (cs:=#[.int .i64 (wrap64 (Int.tdiv a0 t226)),.int .i64 0]) ?_ 1 _ rfl;(with_reducible repeat (first|refine blk_drewN ?_ _|refine blk_drew ?_|refine blk_alloc ?_ _));refine blk_put (cs:=#[.int .i64 0,.int .i64 0]) ?_ 0 _ rfl;(with_reducible repeat (first|refine blk_drewN ?_ _|refine blk_drew ?_|refine blk_alloc ?_ _));exact BK225.out) Try.underlying29 rfl (by kernel_rfl)) rfl ?_
      exact ⟨by first|rfl|(simp [errW_none,errW_some] <;> rfl)|(simp [*,errW_none,errW_some] <;> rfl),by repeat (first|(with_reducible first|exact HB.out|apply ba|apply bb|apply bc|refine below_set ?_ GE225.out|refine below_set ?_ GE227.out)|exact HB.out)⟩
     ·
      replace c11:=Bool.eq_false_iff.mpr c11
      subst c11
      have H1 : (some (0,0,1)) = some (r1,r2,r3):=by rw [if_neg (show ¬ (false = true) by decide)] at H;exact H
      clear H
      have H:=H1
      clear H1
      simp only [Option.some.injEq,Prod.mk.injEq] at H
      obtain ⟨rfl,rfl,rfl⟩:=H
      try go_wp2_with (first|((with_reducible refine gate_callee (f:=78) rfl ?_);refine goesL_ (some 17) rfl rfl Try.func78 (by kernel_rfl) rfl #[.int .i64 a0,.int .i64 a1] rfl (by (try simp only [List.map_toArray,List.map_cons,List.map_nil]);first|done|rfl|(simp only [List.length_drop,List.length_take];rfl)) ?_;(with_reducible refine (ratio_divisor.calls kj2 a0 a1 t226 _ A8.out).mono ?_);rintro e w' ⟨rfl,⟨nd,rfl⟩⟩;refine ⟨_,rfl,?_⟩;(try (rw [drewN_self wc];generalize hq_ : World.drewN wc _ = wc;have n0_ : Aside0 (wc.heap[gb225]? = some (.cells #[.int .i64 0,.int .i64 0] 29 (0,0))):=⟨by rw [← hq_];exact (by (with_reducible repeat (first|refine blk_drewN ?_ _|refine blk_drew ?_|refine blk_alloc ?_ _));exact BK225.out)⟩;have n1_ : Aside0 (Below w.heap.size w wc):=⟨by rw [← hq_];exact (by repeat (first|(with_reducible first|exact HB.out|apply ba|apply bb|apply bc|refine below_set ?_ GE225.out)|exact HB.out))⟩;clear BK225 HB hq_;have BK225:=n0_;have HB:=n1_;clear n0_ n1_))))
      (try (rw [drewN_self wc];generalize hq_ : World.drewN wc _ = wc;have n0_ : Aside0 (wc.heap[gb225]? = some (.cells #[.int .i64 0,.int .i64 0] 29 (0,0))):=⟨by rw [← hq_];exact (by (with_reducible repeat (first|refine blk_drewN ?_ _|refine blk_drew ?_|refine blk_alloc ?_ _));exact BK225.out)⟩;have n1_ : Aside0 (Below w.heap.size w wc):=⟨by rw [← hq_];exact (by repeat (first|(with_reducible first|exact HB.out|apply ba|apply bb|apply bc|refine below_set ?_ GE225.out)|exact HB.out))⟩;clear BK225 HB hq_;have BK225:=n0_;have HB:=n1_;clear n0_ n1_))
      have n0_:=A_ (blk_drew BK225.out)
      have n1_:=A_ (below_drew1 HB.out)
      clear BK225
      clear HB
      have BK225:=n0_
      have HB:=n1_
      clear n0_ n1_
      refine start_ (n:=9) (S:=fun w'=>True) (ds:=[]) #[false,false,false,false,false,false,false,false,false] (by kernel_rfl) rfl rfl trivial (fun hHeld=>?_);refine with_tabW ratio_Make.tab4 ratio_Make.bits4 (fun HT_ HW_=>?_)
      generalize wc.drew = w21 at BK225 HB hHeld ⊢
      refine pure_ (i:=0) (N:=some 18) (v:=?_) (a':=?_) #[true,false,false,false,false,false,false,false,false] rfl rfl (any_of HT_.out (by kernel_rfl)) (fun _ _ _ h=>h) (Or.inl ⟨by rfl,?_⟩) ?_ ?_
      rotate_left
      ·
       intro w'
       go_simp
       with_reducible rfl
      rotate_left
      ·
       simp only [Act.put,sa,sb,sc,i64_w,i32_w]
       rfl
      refine pure_ (i:=1) (N:=some 19) (v:=?_) (a':=?_) #[true,true,false,false,false,false,false,false,false] rfl rfl (any_of HT_.out (by kernel_rfl)) (fun _ _ _ h=>h) (Or.inl ⟨by rfl,?_⟩) ?_ ?_
      rotate_left
      ·
       intro w'
       go_simp
       with_reducible rfl
      rotate_left
      ·
       simp only [Act.put,sa,sb,sc,i64_w,i32_w]
       rfl
      refine pure_ (i:=2) (N:=some 20) (v:=?_) (a':=?_) #[true,true,true,false,false,false,false,false,false] rfl rfl (any_of HT_.out (by kernel_rfl)) (fun _ _ _ h=>h) (Or.inl ⟨by rfl,?_⟩) ?_ ?_
      rotate_left
      ·
       intro w'
       go_simp
       with_reducible rfl
      rotate_left
      ·
       simp only [Act.put,sa,sb,sc,i64_w,i32_w]
       rfl
      refine pure_ (i:=3) (N:=some 21) (v:=?_) (a':=?_) #[true,true,true,true,false,false,false,false,false] rfl rfl (any_of HT_.out (by kernel_rfl)) (fun _ _ _ h=>h) (Or.inl ⟨by rfl,?_⟩) ?_ ?_
      rotate_left
      ·
       intro w'
       go_simp
       with_reducible rfl
      rotate_left
      ·
       simp only [Act.put,sa,sb,sc,i64_w,i32_w]
       rfl
      refine pure_ (i:=4) (N:=some 22) (v:=?_) (a':=?_) #[true,true,true,true,true,false,false,false,false] rfl rfl (any_of HT_.out (by kernel_rfl)) (fun _ _ _ h=>h) (Or.inl ⟨by rfl,?_⟩) ?_ ?_
      rotate_left
      ·
       intro w'
       go_simp
       with_reducible rfl
      rotate_left
      ·
       simp only [Act.put,sa,sb,sc,i64_w,i32_w]
       rfl
      refine pure_ (i:=5) (N:=some 23) (v:=?_) (a':=?_) #[true,true,true,true,true,true,false,false,false] rfl rfl (any_of HT_.out (by kernel_rfl)) (fun _ _ _ h=>h) (Or.inl ⟨by rfl,?_⟩) ?_ ?_
      rotate_left
      ·
       intro w'
       go_simp
       with_reducible rfl
      rotate_left
      ·
       simp only [Act.put,sa,sb,sc,i64_w,i32_w]
       rfl
      refine pure_ (i:=6) (N:=some 24) (v:=?_) (a':=?_) #[true,true,true,true,true,true,true,false,false] rfl rfl (any_of HT_.out (by kernel_rfl)) (fun _ _ _ h=>h) (Or.inl ⟨by rfl,?_⟩) ?_ ?_
      rotate_left
      ·
       intro w'
       go_simp
       with_reducible rfl
      rotate_left
      ·
       simp only [Act.put,sa,sb,sc,i64_w,i32_w]
       rfl
      refine one_ (i:=7) (N:=some 7) #[true,true,true,true,true,true,true,true,false] rfl rfl (one_of HT_.out (by kernel_rfl)) (by decide) (fun K hK=>?_)
      refine box_step ?hg (N:=7) ?hd (cs:=#[.int .i64 0,.int .i64 0]) (t:=29) ?hr ?_;(case hd=>rfl);(case hg=>rfl);(case hr=>first|(go_simp;done)|(go_simp;rfl))
      intro gb227 hg w22 hbox hb
      have n0_:=A_ (blk_below (g:=gb225) (o:=.cells #[.int .i64 0,.int .i64 0] 29 (0,0)) (by (with_reducible repeat (first|refine blk_drewN ?_ _|refine blk_drew ?_|refine blk_alloc ?_ _));exact BK225.out) hb)
      have n1_:=A_ (below_step (by repeat (first|(with_reducible first|exact HB.out|apply ba|apply bb|apply bc|refine below_set ?_ GE225.out)|exact HB.out)) hb)
      have n2_:=A_ (hbox)
      have n3_:=A_ ((by rw [hg];exact (below_size (by repeat (first|(with_reducible first|exact HB.out|apply ba|apply bb|apply bc|refine below_set ?_ GE225.out)|exact HB.out))) : w.heap.size ≤ gb227))
      have n4_:=A_ ((by rw [hg];exact (below_size (by repeat (first|(with_reducible first|exact HB.out|apply ba|apply bb|apply bc|refine below_set ?_ GE225.out)|exact HB.out))) : w.heap.size ≤ gb227))
      have n5_:=A_ ((by rw [hg];exact Nat.ne_of_lt (blk_lt (g:=gb225) (o:=.cells #[.int .i64 0,.int .i64 0] 29 (0,0)) (by (with_reducible repeat (first|refine blk_drewN ?_ _|refine blk_drew ?_|refine blk_alloc ?_ _));exact BK225.out)) : gb225≠gb227))
      have n6_:=A_ ((by rw [hg];exact Nat.ne_of_gt (blk_lt (g:=gb225) (o:=.cells #[.int .i64 0,.int .i64 0] 29 (0,0)) (by (with_reducible repeat (first|refine blk_drewN ?_ _|refine blk_drew ?_|refine blk_alloc ?_ _));exact BK225.out)) : gb227≠gb225))
      clear BK225
      clear HB
      have BK225:=n0_
      have HB:=n1_
      have BK227:=n2_
      have GW227:=n3_
      have GE227:=n4_
      have NB225_227:=n5_
      have NB227_225:=n6_
      clear n0_ n1_ n2_ n3_ n4_ n5_ n6_
      clear hb hbox hg
      refine hK.out _ _ trivial (fun hHeld=>?_)
      clear hK K
      refine norm_ (a':=?_) ?_ ?_
      rotate_left
      ·
       show Act.put _ (some 7) _ = _
       simp only [Act.put,sa,sb,sc,i64_w,i32_w]
       rfl
      refine one_ (i:=8) (N:=none) #[true,true,true,true,true,true,true,true,true] rfl rfl (one_of HT_.out (by kernel_rfl)) (by decide) (fun K hK=>?_)
      have hs23 : w22.cell? ⟨gb227,0,none⟩ = some (.int .i64 0):=(blk_cell BK227.out 0).trans rfl
      have hfs23:=blk_frozen BK227.out 0
      have hns23_0:=NB225_227.out
      have hms23_0:=NB227_225.out
      have hs24 : w22.cell? ⟨gb227,1,none⟩ = some (.int .i64 0):=(blk_cell BK227.out 1).trans rfl
      have hfs24:=blk_frozen BK227.out 1
      have hns24_0:=NB225_227.out
      have hms24_0:=NB227_225.out
      refine skip_ (w1:=?_) (by rfl) rfl ?_ ?_
      rotate_left
      ·
       go_simp
       rfl
      refine hK.out _ _ trivial (fun hHeld=>?_)
      clear hK K
      refine done_ (done_of HT_.out (by kernel_rfl)) ?_
      have hnb25:=NB227_225.out
      have hnc25:=NB225_227.out
      have hcz26_0 : w22.cell? ⟨gb227,0,none⟩ = some (.int .i64 0):=(blk_cell BK227.out 0).trans rfl
      have hcz26_1 : w22.cell? ⟨gb227,1,none⟩ = some (.int .i64 0):=(blk_cell BK227.out 1).trans rfl
      have hfz26_0:=blk_frozen BK227.out 0
      have hfz26_1:=blk_frozen BK227.out 1
      try go_wp2_with (first|((with_reducible refine gate_callee (f:=79) rfl ?_);refine goesL_ (some 26) rfl rfl Try.func79 (by kernel_rfl) rfl #[.agg #[.int .i64 (wrap64 (Int.tdiv a0 t226)),.int .i64 (wrap64 (Int.tdiv a1 t226))]] rfl (by (try simp only [List.map_toArray,List.map_cons,List.map_nil]);first|done|rfl|(simp only [List.length_drop,List.length_take];rfl)) ?_;(with_reducible refine (ratio_within.calls (wrap64 (Int.tdiv a0 t226)) (wrap64 (Int.tdiv a1 t226)) false _ A10.out).mono ?_);rintro e w27 ⟨rfl,hb⟩;refine ⟨_,rfl,?_⟩;have n0_:=A_ (blk_below (g:=gb225) (o:=.cells #[.int .i64 0,.int .i64 0] 29 (0,0)) (by (with_reducible repeat (first|refine blk_drewN ?_ _|refine blk_drew ?_|refine blk_alloc ?_ _));refine blk_far ?_ NB225_227.out _;(with_reducible repeat (first|refine blk_drewN ?_ _|refine blk_drew ?_|refine blk_alloc ?_ _));refine blk_far ?_ NB225_227.out _;(with_reducible repeat (first|refine blk_drewN ?_ _|refine blk_drew ?_|refine blk_alloc ?_ _));exact BK225.out) hb);have n1_:=A_ (blk_below (g:=gb227) (o:=.cells #[.int .i64 (wrap64 (Int.tdiv a0 t226)),.int .i64 (wrap64 (Int.tdiv a1 t226))] 29 (0,0)) (by (with_reducible repeat (first|refine blk_drewN ?_ _|refine blk_drew ?_|refine blk_alloc ?_ _));refine blk_put (cs:=#[.int .i64 (wrap64 (Int.tdiv a0 t226)),.int .i64 0]) ?_ 1 _ rfl;(with_reducible repeat (first|refine blk_drewN ?_ _|refine blk_drew ?_|refine blk_alloc ?_ _));refine blk_put (cs:=#[.int .i64 0,.int .i64 0]) ?_ 0 _ rfl;(with_reducible repeat (first|refine blk_drewN ?_ _|refine blk_drew ?_|refine blk_alloc ?_ _));exact BK227.out) hb);have n2_:=A_ (below_step (by repeat (first|(with_reducible first|exact HB.out|apply ba|apply bb|apply bc|refine below_set ?_ GE225.out|refine below_set ?_ GE227.out)|exact HB.out)) hb);clear BK225;clear BK227;clear HB;have BK225:=n0_;have BK227:=n1_;have HB:=n2_;clear n0_ n1_ n2_;(try clear hb);(try clear hb2);(try clear hk);(try clear hi);have hcz28_0 : w27.cell? ⟨gb225,0,none⟩ = some (.int .i64 0):=(blk_cell BK225.out 0).trans rfl;have hcz28_1 : w27.cell? ⟨gb225,1,none⟩ = some (.int .i64 0):=(blk_cell BK225.out 1).trans rfl;have hfz28_0:=blk_frozen BK225.out 0;have hfz28_1:=blk_frozen BK225.out 1))
      refine bodyPost_ret (results_ct rfl _ _ gb225 29 #[.int .i64 0,.int .i64 0] (0,0) _ rfl (by (with_reducible repeat (first|refine blk_drewN ?_ _|refine blk_drew ?_|refine blk_alloc ?_ _));refine blk_put (cs:=#[.int .i64 0,.int .i64 0]) ?_ 1 _ rfl;(with_reducible repeat (first|refine blk_drewN ?_ _|refine blk_drew ?_|refine blk_alloc ?_ _));refine blk_put (cs:=#[.int .i64 0,.int .i64 0]) ?_ 0 _ rfl;(with_reducible repeat (first|refine blk_drewN ?_ _|refine blk_drew ?_|refine blk_alloc ?_ _));exact BK225.out) Try.underlying29 rfl (by kernel_rfl)) rfl ?_
      exact ⟨by first|rfl|(simp [errW_none,errW_some] <;> rfl)|(simp [*,errW_none,errW_some] <;> rfl),by repeat (first|(with_reducible first|exact HB.out|apply ba|apply bb|apply bc|refine below_set ?_ GE225.out|refine below_set ?_ GE227.out)|exact HB.out)⟩

/-! ### normal_gap: function 34 -/
def normal_gap.j0 : Nat → List Int → List Int → Int → Int → Bool → Option (Int × Int × Int)
 | 0,_,_,_,_,_=>none
 | k + 1,x0,x1,x6,x7,x13=>if x13 = true then ((ratio_Make.f k 0 1).bind fun bt232=>(some (bt232.1,bt232.2.1,bt232.2.2))) else (if x6 = 0 then ((ratio_Make.f k 1 1).bind fun bt235=>(some (bt235.1,bt235.2.1,bt235.2.2))) else (if x7 = 0 then ((ratio_Make.f k 1 1).bind fun bt238=>(some (bt238.1,bt238.2.1,bt238.2.2))) else ((normal_product.f k x0 x1).bind fun t241=>(if t241 < 0 then ((ratio_Make.f k (wrap64 ((wrap64 (x6 * x7)) + (wrap64 (t241 * t241)))) (wrap64 (x6 * x7))).bind fun bt242=>(some (bt242.1,bt242.2.1,bt242.2.2))) else ((ratio_Make.f k (wrap64 ((wrap64 (x6 * x7)) - (wrap64 (t241 * t241)))) (wrap64 (x6 * x7))).bind fun bt245=>(some (bt245.1,bt245.2.1,bt245.2.2)))))))
def normal_gap.f (k : Nat) (l0 : List Int) (l1 : List Int) : Option (Int × Int × Int):=(normal_variance.f k l0).bind fun t230=>((normal_variance.f k l1).bind fun t231=>(if t230 = 0 then (normal_gap.j0 k l0 l1 t230 t231 (t231 == 0)) else (normal_gap.j0 k l0 l1 t230 t231 false)))
theorem normal_gap.mono_l : ∀ k,(∀ y0 y1 y2 y3 y4,LeO (normal_gap.j0 k y0 y1 y2 y3 y4) (normal_gap.j0 (k + 1) y0 y1 y2 y3 y4))
 | 0=>fun _ _ _ _ _ r h=>by simp [normal_gap.j0] at h
 | k + 1=>by
  have ih0:=normal_gap.mono_l k
  ·
   intro y0 y1 y2 y3 y4
   unfold normal_gap.j0
   repeat' first
   | (with_reducible exact ih0 _ _ _ _ _)
   | (with_reducible exact normal_product.mono _ _ _)
   | (with_reducible exact normal_variance.mono _ _)
   | (with_reducible exact ratio_Make.mono _ _ _)
   | (with_reducible exact LeO.refl _)
   | (with_reducible exact LeO.none _)
   | (with_reducible refine LeO.ite ?_ ?_)
   | (with_reducible refine LeO.bind ?_ (fun _=>?_))
   | exact ih0 _ _ _ _ _
   | exact normal_product.mono _ _ _
   | exact normal_variance.mono _ _
   | exact ratio_Make.mono _ _ _
   | exact LeO.none _
   | refine LeO.ite ?_ ?_
   | refine LeO.bind ?_ (fun _=>?_)
theorem normal_gap.mono : ∀ a0 a1 k,LeO (normal_gap.f k a0 a1) (normal_gap.f (k + 1) a0 a1):=by
 intro a0 a1 k
 have ih0:=normal_gap.mono_l k
 unfold normal_gap.f
 repeat' first
   | (with_reducible exact ih0 _ _ _ _ _)
   | (with_reducible exact normal_product.mono _ _ _)
   | (with_reducible exact normal_variance.mono _ _)
   | (with_reducible exact ratio_Make.mono _ _ _)
   | (with_reducible exact LeO.refl _)
   | (with_reducible exact LeO.none _)
   | (with_reducible refine LeO.ite ?_ ?_)
   | (with_reducible refine LeO.bind ?_ (fun _=>?_))
   | exact ih0 _ _ _ _ _
   | exact normal_product.mono _ _ _
   | exact normal_variance.mono _ _
   | exact ratio_Make.mono _ _ _
   | exact LeO.none _
   | refine LeO.ite ?_ ?_
   | refine LeO.bind ?_ (fun _=>?_)
set_option maxHeartbeats 8000000 in
set_option maxRecDepth 100000 in
theorem normal_gap.calls (k : Nat) (A0 : Option Addr) (c0 : Nat) (l0 : List Int) (A1 : Option Addr) (c1 : Nat) (l1 : List Int) (r1 : Int) (r2 : Int) (r3 : Int) (w : World) (hr0 : Kd.C (Kd.int .i64) w A0 l0.length l0) (hc0 : l0.length ≤ c0) (hr1 : Kd.C (Kd.int .i64) w A1 l1.length l1) (hc1 : l1.length ≤ c1) (h : normal_gap.f k l0 l1 = some (r1,r2,r3)) :
  Calls Try.prog 34 #[.slice A0 l0.length c0,.slice A1 l1.length c1] w fun e w'=>e = .returned (.tuple #[.agg #[.int .i64 r1,.int .i64 r2],.int .i64 r3])∧Below w.heap.size w w':=by
 have hu29:=Try.underlying29
 have HR0:=A_ hr0
 have HC0:=A_ hc0
 clear hr0 hc0
 have HR1:=A_ hr1
 have HC1:=A_ hc1
 clear hr1 hc1
 have HB:=A_ (Below.refl w.heap.size w)
 have H : ((normal_variance.f k l0).bind fun t230=>((normal_variance.f k l1).bind fun t231=>(if t230 = 0 then (normal_gap.j0 k l0 l1 t230 t231 (t231 == 0)) else (normal_gap.j0 k l0 l1 t230 t231 false)))) = some (r1,r2,r3):=h
 clear h
 replace H:=Option.bind_eq_some_iff.mp H
 obtain ⟨t230,A30,H⟩:=H
 replace H : ((normal_variance.f k l1).bind fun t231=>(if t230 = 0 then (normal_gap.j0 k l0 l1 t230 t231 (t231 == 0)) else (normal_gap.j0 k l0 l1 t230 t231 false))) = some (r1,r2,r3):=H
 have A3:=A_ A30
 clear A30
 replace H:=Option.bind_eq_some_iff.mp H
 obtain ⟨t231,A40,H⟩:=H
 replace H : (if t230 = 0 then (normal_gap.j0 k l0 l1 t230 t231 (t231 == 0)) else (normal_gap.j0 k l0 l1 t230 t231 false)) = some (r1,r2,r3):=H
 have A4:=A_ A40
 clear A40
 have HC5:=A_ H
 clear H
 go_enter Try.func34,Try.ntmps34
 go_upto_region 2 with (first|((with_reducible refine gate_dst (N:=4) rfl ?_);refine box_event ?hg (N:=4) ?hd (cs:=#[.int .i64 0,.int .i64 0]) (t:=29) ?hr ?_;(case hd=>rfl);(case hg=>rfl);(case hr=>first|(go_simp;done)|(go_simp;rfl));intro gb229 hg w6 hbox hb;have n0_:=A_ (below_step (by repeat (first|(with_reducible first|exact HB.out|apply ba|apply bb|apply bc)|exact HB.out)) hb);have n1_:=A_ (hbox);have n2_:=A_ ((by rw [hg];exact (below_size (by repeat (first|(with_reducible first|exact HB.out|apply ba|apply bb|apply bc)|exact HB.out))) : w.heap.size ≤ gb229));have n3_:=A_ ((by rw [hg];exact (below_size (by repeat (first|(with_reducible first|exact HB.out|apply ba|apply bb|apply bc)|exact HB.out))) : w.heap.size ≤ gb229));clear HB;have HB:=n0_;have BK229:=n1_;have GW229:=n2_;have GE229:=n3_;clear n0_ n1_ n2_ n3_;clear hb hbox hg)|((with_reducible refine gate_callee (f:=53) rfl ?_);refine goesL_ (some 10) rfl rfl Try.func53 (by kernel_rfl) rfl #[.slice A0 l0.length c0] rfl (by (try simp only [List.map_toArray,List.map_cons,List.map_nil]);first|done|rfl|(simp only [List.length_drop,List.length_take];rfl)) ?_;(with_reducible refine (normal_variance.calls k _ _ l0 t230 _ ?side1 ?side2 A3.out).mono ?_);(case side1=>repeat (first|exact (cl HR0.out HB.out)|(with_reducible refine ca ?_ _)|(with_reducible refine cb ?_ _)|(with_reducible refine cc ?_)));(case side2=>exact HC0.out);rintro e w7 ⟨rfl,hb⟩;refine ⟨_,rfl,?_⟩;have n0_:=A_ (blk_below (g:=gb229) (o:=.cells #[.int .i64 0,.int .i64 0] 29 (0,0)) (by (with_reducible repeat (first|refine blk_drewN ?_ _|refine blk_drew ?_|refine blk_alloc ?_ _));exact BK229.out) hb);have n1_:=A_ (below_step (by repeat (first|(with_reducible first|exact HB.out|apply ba|apply bb|apply bc|refine below_set ?_ GE229.out)|exact HB.out)) hb);clear BK229;clear HB;have BK229:=n0_;have HB:=n1_;clear n0_ n1_;(try clear hb);(try clear hb2);(try clear hk);(try clear hi))|((with_reducible refine gate_callee (f:=53) rfl ?_);refine goesL_ (some 12) rfl rfl Try.func53 (by kernel_rfl) rfl #[.slice A1 l1.length c1] rfl (by (try simp only [List.map_toArray,List.map_cons,List.map_nil]);first|done|rfl|(simp only [List.length_drop,List.length_take];rfl)) ?_;(with_reducible refine (normal_variance.calls k _ _ l1 t231 _ ?side1 ?side2 A4.out).mono ?_);(case side1=>repeat (first|exact (cl HR1.out HB.out)|(with_reducible refine ca ?_ _)|(with_reducible refine cb ?_ _)|(with_reducible refine cc ?_)));(case side2=>exact HC1.out);rintro e w8 ⟨rfl,hb⟩;refine ⟨_,rfl,?_⟩;have n0_:=A_ (blk_below (g:=gb229) (o:=.cells #[.int .i64 0,.int .i64 0] 29 (0,0)) (by (with_reducible repeat (first|refine blk_drewN ?_ _|refine blk_drew ?_|refine blk_alloc ?_ _));exact BK229.out) hb);have n1_:=A_ (below_step (by repeat (first|(with_reducible first|exact HB.out|apply ba|apply bb|apply bc|refine below_set ?_ GE229.out)|exact HB.out)) hb);clear BK229;clear HB;have BK229:=n0_;have HB:=n1_;clear n0_ n1_;(try clear hb);(try clear hb2);(try clear hk);(try clear hi)))
 (try simp only [Act.put,List.setIfInBounds_toArray,List.set_cons_zero,List.set_cons_succ])
 go_cut [13] (fun v13 wc=>∃ (kq : Nat) (x13_4 : Bool),v13 = .bool x13_4∧Aside0 (normal_gap.j0 kq l0 l1 t230 t231 x13_4 = some (r1,r2,r3))∧Aside0 (kq ≤ k)∧Aside0 (wc.heap[gb229]? = some (.cells #[.int .i64 0,.int .i64 0] 29 (0,0)))∧Aside0 (Below w.heap.size w wc))
 case first =>
  have H:=HC5.out
  clear HC5
  by_cases c9 : t230 = 0
  ·
   rw [if_pos c9] at H
   have c9b0 : (t230 == 0) = true:=beq_iff_eq.mpr c9
   have c9b1 : (t230 != 0) = false:=bne_eq_false_iff_eq.mpr c9
   clear c9
   (first|rw [c9b0]|(simp only [i64_w,i32_w];rw [c9b0])|skip)
   have H':=A_ H
   clear H
   go_wp2
   go_meet
   case rel=>exact ⟨_,((t231 == 0)),(by first|rfl|(simp;done)|(simp [*];done)),H',⟨by first|omega|exact Nat.le_refl _⟩,⟨by (with_reducible repeat (first|refine blk_drewN ?_ _|refine blk_drew ?_|refine blk_alloc ?_ _));exact BK229.out⟩,⟨by repeat (first|(with_reducible first|exact HB.out|apply ba|apply bb|apply bc|refine below_set ?_ GE229.out)|exact HB.out)⟩⟩
  ·
   rw [if_neg c9] at H
   have c9b0 : (t230 == 0) = false:=beq_eq_false_iff_ne.mpr c9
   have c9b1 : (t230 != 0) = true:=bne_iff_ne.mpr c9
   (first|rw [c9b0]|(simp only [i64_w,i32_w];rw [c9b0])|skip)
   have H':=A_ H
   clear H
   go_wp2
   go_meet
   case rel=>exact ⟨_,(false),(by first|rfl|(simp;done)|(simp [*];done)),H',⟨by first|omega|exact Nat.le_refl _⟩,⟨by (with_reducible repeat (first|refine blk_drewN ?_ _|refine blk_drew ?_|refine blk_alloc ?_ _));exact BK229.out⟩,⟨by repeat (first|(with_reducible first|exact HB.out|apply ba|apply bb|apply bc|refine below_set ?_ GE229.out)|exact HB.out)⟩⟩
 case rest =>
  clear HC5
  try clear c1
  try clear p2
  try clear c3
  try clear c5
  try clear c9
  try clear c9b0
  try clear c9b1
  obtain ⟨kq,x13_4,rfl,HA,HJ4,BK229,HB⟩:=hcut
  cases kq with
  | zero=>exact absurd HA.out (by simp [normal_gap.j0])
  | succ kj4 =>
   have H:=HA.out
   clear HA
   simp only [normal_gap.j0] at H
   by_cases c10 : x13_4 = true
   ·
    subst c10
    have H1 : ((ratio_Make.f kj4 0 1).bind fun bt232=>(some (bt232.1,bt232.2.1,bt232.2.2))) = some (r1,r2,r3):=by rw [if_pos rfl] at H;exact H
    clear H
    have H:=H1
    clear H1
    replace H:=Option.bind_eq_some_iff.mp H
    obtain ⟨⟨t232,t233,t234⟩,A110,H⟩:=H
    replace H : (some (t232,t233,t234)) = some (r1,r2,r3):=H
    have A11:=A_ A110
    clear A110
    simp only [Option.some.injEq,Prod.mk.injEq] at H
    obtain ⟨rfl,rfl,rfl⟩:=H
    go_wp2_with (first|((with_reducible refine gate_callee (f:=54) rfl ?_);refine goesL_ (some 20) rfl rfl Try.func54 (by kernel_rfl) rfl #[.int .i64 0,.int .i64 1] rfl (by (try simp only [List.map_toArray,List.map_cons,List.map_nil]);first|done|rfl|(simp only [List.length_drop,List.length_take];rfl)) ?_;(with_reducible refine (ratio_Make.calls kj4 0 1 t232 t233 t234 _ A11.out).mono ?_);rintro e w12 ⟨rfl,hb⟩;refine ⟨_,rfl,?_⟩;have n0_:=A_ (blk_below (g:=gb229) (o:=.cells #[.int .i64 0,.int .i64 0] 29 (0,0)) (by (with_reducible repeat (first|refine blk_drewN ?_ _|refine blk_drew ?_|refine blk_alloc ?_ _));exact BK229.out) hb);have n1_:=A_ (below_step (by repeat (first|(with_reducible first|exact HB.out|apply ba|apply bb|apply bc|refine below_set ?_ GE229.out)|exact HB.out)) hb);clear BK229;clear HB;have BK229:=n0_;have HB:=n1_;clear n0_ n1_;(try clear hb);(try clear hb2);(try clear hk);(try clear hi);have hcz13_0 : w12.cell? ⟨gb229,0,none⟩ = some (.int .i64 0):=(blk_cell BK229.out 0).trans rfl;have hcz13_1 : w12.cell? ⟨gb229,1,none⟩ = some (.int .i64 0):=(blk_cell BK229.out 1).trans rfl;have hfz13_0:=blk_frozen BK229.out 0;have hfz13_1:=blk_frozen BK229.out 1))
    refine bodyPost_ret (results_ct rfl _ _ gb229 29 #[.int .i64 t232,.int .i64 t233] (0,0) _ rfl (by (with_reducible repeat (first|refine blk_drewN ?_ _|refine blk_drew ?_|refine blk_alloc ?_ _));refine blk_put (cs:=#[.int .i64 t232,.int .i64 0]) ?_ 1 _ rfl;(with_reducible repeat (first|refine blk_drewN ?_ _|refine blk_drew ?_|refine blk_alloc ?_ _));refine blk_put (cs:=#[.int .i64 0,.int .i64 0]) ?_ 0 _ rfl;(with_reducible repeat (first|refine blk_drewN ?_ _|refine blk_drew ?_|refine blk_alloc ?_ _));exact BK229.out) Try.underlying29 rfl (by kernel_rfl)) rfl ?_
    exact ⟨by first|rfl|(simp [errW_none,errW_some] <;> rfl)|(simp [*,errW_none,errW_some] <;> rfl),by repeat (first|(with_reducible first|exact HB.out|apply ba|apply bb|apply bc|refine below_set ?_ GE229.out)|exact HB.out)⟩
   ·
    replace c10:=Bool.eq_false_iff.mpr c10
    subst c10
    have H1 : (if t230 = 0 then ((ratio_Make.f kj4 1 1).bind fun bt235=>(some (bt235.1,bt235.2.1,bt235.2.2))) else (if t231 = 0 then ((ratio_Make.f kj4 1 1).bind fun bt238=>(some (bt238.1,bt238.2.1,bt238.2.2))) else ((normal_product.f kj4 l0 l1).bind fun t241=>(if t241 < 0 then ((ratio_Make.f kj4 (wrap64 ((wrap64 (t230 * t231)) + (wrap64 (t241 * t241)))) (wrap64 (t230 * t231))).bind fun bt242=>(some (bt242.1,bt242.2.1,bt242.2.2))) else ((ratio_Make.f kj4 (wrap64 ((wrap64 (t230 * t231)) - (wrap64 (t241 * t241)))) (wrap64 (t230 * t231))).bind fun bt245=>(some (bt245.1,bt245.2.1,bt245.2.2))))))) = some (r1,r2,r3):=by rw [if_neg (show ¬ (false = true) by decide)] at H;exact H
    clear H
    have H:=H1
    clear H1
    by_cases c14 : t230 = 0
    ·
     rw [if_pos c14] at H
     have c14b0 : (t230 == 0) = true:=beq_iff_eq.mpr c14
     have c14b1 : (t230 != 0) = false:=bne_eq_false_iff_eq.mpr c14
     clear c14
     replace H:=Option.bind_eq_some_iff.mp H
     obtain ⟨⟨t235,t236,t237⟩,A150,H⟩:=H
     replace H : (some (t235,t236,t237)) = some (r1,r2,r3):=H
     have A15:=A_ A150
     clear A150
     simp only [Option.some.injEq,Prod.mk.injEq] at H
     obtain ⟨rfl,rfl,rfl⟩:=H
     go_wp2_with (first|((with_reducible refine gate_callee (f:=54) rfl ?_);refine goesL_ (some 30) rfl rfl Try.func54 (by kernel_rfl) rfl #[.int .i64 1,.int .i64 1] rfl (by (try simp only [List.map_toArray,List.map_cons,List.map_nil]);first|done|rfl|(simp only [List.length_drop,List.length_take];rfl)) ?_;(with_reducible refine (ratio_Make.calls kj4 1 1 t235 t236 t237 _ A15.out).mono ?_);rintro e w16 ⟨rfl,hb⟩;refine ⟨_,rfl,?_⟩;have n0_:=A_ (blk_below (g:=gb229) (o:=.cells #[.int .i64 0,.int .i64 0] 29 (0,0)) (by (with_reducible repeat (first|refine blk_drewN ?_ _|refine blk_drew ?_|refine blk_alloc ?_ _));exact BK229.out) hb);have n1_:=A_ (below_step (by repeat (first|(with_reducible first|exact HB.out|apply ba|apply bb|apply bc|refine below_set ?_ GE229.out)|exact HB.out)) hb);clear BK229;clear HB;have BK229:=n0_;have HB:=n1_;clear n0_ n1_;(try clear hb);(try clear hb2);(try clear hk);(try clear hi);have hcz17_0 : w16.cell? ⟨gb229,0,none⟩ = some (.int .i64 0):=(blk_cell BK229.out 0).trans rfl;have hcz17_1 : w16.cell? ⟨gb229,1,none⟩ = some (.int .i64 0):=(blk_cell BK229.out 1).trans rfl;have hfz17_0:=blk_frozen BK229.out 0;have hfz17_1:=blk_frozen BK229.out 1))
     refine bodyPost_ret (results_ct rfl _ _ gb229 29 #[.int .i64 t235,.int .i64 t236] (0,0) _ rfl (by (with_reducible repeat (first|refine blk_drewN ?_ _|refine blk_drew ?_|refine blk_alloc ?_ _));refine blk_put (cs:=#[.int .i64 t235,.int .i64 0]) ?_ 1 _ rfl;(with_reducible repeat (first|refine blk_drewN ?_ _|refine blk_drew ?_|refine blk_alloc ?_ _));refine blk_put (cs:=#[.int .i64 0,.int .i64 0]) ?_ 0 _ rfl;(with_reducible repeat (first|refine blk_drewN ?_ _|refine blk_drew ?_|refine blk_alloc ?_ _));exact BK229.out) Try.underlying29 rfl (by kernel_rfl)) rfl ?_
     exact ⟨by first|rfl|(simp [errW_none,errW_some] <;> rfl)|(simp [*,errW_none,errW_some] <;> rfl),by repeat (first|(with_reducible first|exact HB.out|apply ba|apply bb|apply bc|refine below_set ?_ GE229.out)|exact HB.out)⟩
    ·
     rw [if_neg c14] at H
     have c14b0 : (t230 == 0) = false:=beq_eq_false_iff_ne.mpr c14
     have c14b1 : (t230 != 0) = true:=bne_iff_ne.mpr c14
     by_cases c18 : t231 = 0
     ·
      rw [if_pos c18] at H
      have c18b0 : (t231 == 0) = true:=beq_iff_eq.mpr c18
      have c18b1 : (t231 != 0) = false:=bne_eq_false_iff_eq.mpr c18
      clear c18
      replace H:=Option.bind_eq_some_iff.mp H
      obtain ⟨⟨t238,t239,t240⟩,A190,H⟩:=H
      replace H : (some (t238,t239,t240)) = some (r1,r2,r3):=H
      have A19:=A_ A190
      clear A190
      simp only [Option.some.injEq,Prod.mk.injEq] at H
      obtain ⟨rfl,rfl,rfl⟩:=H
      go_wp2_with (first|((with_reducible refine gate_callee (f:=54) rfl ?_);refine goesL_ (some 30) rfl rfl Try.func54 (by kernel_rfl) rfl #[.int .i64 1,.int .i64 1] rfl (by (try simp only [List.map_toArray,List.map_cons,List.map_nil]);first|done|rfl|(simp only [List.length_drop,List.length_take];rfl)) ?_;(with_reducible refine (ratio_Make.calls kj4 1 1 t238 t239 t240 _ A19.out).mono ?_);rintro e w20 ⟨rfl,hb⟩;refine ⟨_,rfl,?_⟩;have n0_:=A_ (blk_below (g:=gb229) (o:=.cells #[.int .i64 0,.int .i64 0] 29 (0,0)) (by (with_reducible repeat (first|refine blk_drewN ?_ _|refine blk_drew ?_|refine blk_alloc ?_ _));exact BK229.out) hb);have n1_:=A_ (below_step (by repeat (first|(with_reducible first|exact HB.out|apply ba|apply bb|apply bc|refine below_set ?_ GE229.out)|exact HB.out)) hb);clear BK229;clear HB;have BK229:=n0_;have HB:=n1_;clear n0_ n1_;(try clear hb);(try clear hb2);(try clear hk);(try clear hi);have hcz21_0 : w20.cell? ⟨gb229,0,none⟩ = some (.int .i64 0):=(blk_cell BK229.out 0).trans rfl;have hcz21_1 : w20.cell? ⟨gb229,1,none⟩ = some (.int .i64 0):=(blk_cell BK229.out 1).trans rfl;have hfz21_0:=blk_frozen BK229.out 0;have hfz21_1:=blk_frozen BK229.out 1))
      refine bodyPost_ret (results_ct rfl _ _ gb229 29 #[.int .i64 t238,.int .i64 t239] (0,0) _ rfl (by (with_reducible repeat (first|refine blk_drewN ?_ _|refine blk_drew ?_|refine blk_alloc ?_ _));refine blk_put (cs:=#[.int .i64 t238,.int .i64 0]) ?_ 1 _ rfl;(with_reducible repeat (first|refine blk_drewN ?_ _|refine blk_drew ?_|refine blk_alloc ?_ _));refine blk_put (cs:=#[.int .i64 0,.int .i64 0]) ?_ 0 _ rfl;(with_reducible repeat (first|refine blk_drewN ?_ _|refine blk_drew ?_|refine blk_alloc ?_ _));exact BK229.out) Try.underlying29 rfl (by kernel_rfl)) rfl ?_
      exact ⟨by first|rfl|(simp [errW_none,errW_some] <;> rfl)|(simp [*,errW_none,errW_some] <;> rfl),by repeat (first|(with_reducible first|exact HB.out|apply ba|apply bb|apply bc|refine below_set ?_ GE229.out)|exact HB.out)⟩
     ·
      rw [if_neg c18] at H
      have c18b0 : (t231 == 0) = false:=beq_eq_false_iff_ne.mpr c18
      have c18b1 : (t231 != 0) = true:=bne_iff_ne.mpr c18
      replace H:=Option.bind_eq_some_iff.mp H
      obtain ⟨t241,A220,H⟩:=H
      replace H : (if t241 < 0 then ((ratio_Make.f kj4 (wrap64 ((wrap64 (t230 * t231)) + (wrap64 (t241 * t241)))) (wrap64 (t230 * t231))).bind fun bt242=>(some (bt242.1,bt242.2.1,bt242.2.2))) else ((ratio_Make.f kj4 (wrap64 ((wrap64 (t230 * t231)) - (wrap64 (t241 * t241)))) (wrap64 (t230 * t231))).bind fun bt245=>(some (bt245.1,bt245.2.1,bt245.2.2)))) = some (r1,r2,r3):=H
      have A22:=A_ A220
      clear A220
      by_cases c23 : t241 < 0
      ·
       rw [if_pos c23] at H
       have c23b0 : decide (t241 < 0) = true:=decide_eq_true c23
       clear c23
       replace H:=Option.bind_eq_some_iff.mp H
       obtain ⟨⟨t242,t243,t244⟩,A240,H⟩:=H
       replace H : (some (t242,t243,t244)) = some (r1,r2,r3):=H
       have A24:=A_ A240
       clear A240
       simp only [Option.some.injEq,Prod.mk.injEq] at H
       obtain ⟨rfl,rfl,rfl⟩:=H
       go_wp2_with (first|((with_reducible refine gate_callee (f:=35) rfl ?_);refine goesL_ (some 35) rfl rfl Try.func35 (by kernel_rfl) rfl #[.slice A0 l0.length c0,.slice A1 l1.length c1] rfl (by (try simp only [List.map_toArray,List.map_cons,List.map_nil]);first|done|rfl|(simp only [List.length_drop,List.length_take];rfl)) ?_;(with_reducible refine (normal_product.calls kj4 _ _ l0 _ _ l1 t241 _ ?side1 ?side2 ?side3 ?side4 A22.out).mono ?_);(case side1=>repeat (first|exact (cl HR0.out HB.out)|(with_reducible refine ca ?_ _)|(with_reducible refine cb ?_ _)|(with_reducible refine cc ?_)));(case side2=>exact HC0.out);(case side3=>repeat (first|exact (cl HR1.out HB.out)|(with_reducible refine ca ?_ _)|(with_reducible refine cb ?_ _)|(with_reducible refine cc ?_)));(case side4=>exact HC1.out);rintro e w' ⟨rfl,⟨nd,rfl⟩⟩;refine ⟨_,rfl,?_⟩;(try (rw [drewN_self wc];generalize hq_ : World.drewN wc _ = wc;have n0_ : Aside0 (wc.heap[gb229]? = some (.cells #[.int .i64 0,.int .i64 0] 29 (0,0))):=⟨by rw [← hq_];exact (by (with_reducible repeat (first|refine blk_drewN ?_ _|refine blk_drew ?_|refine blk_alloc ?_ _));exact BK229.out)⟩;have n1_ : Aside0 (Below w.heap.size w wc):=⟨by rw [← hq_];exact (by repeat (first|(with_reducible first|exact HB.out|apply ba|apply bb|apply bc|refine below_set ?_ GE229.out)|exact HB.out))⟩;clear BK229 HB hq_;have BK229:=n0_;have HB:=n1_;clear n0_ n1_)))|((with_reducible refine gate_callee (f:=54) rfl ?_);refine goesL_ (some 48) rfl rfl Try.func54 (by kernel_rfl) rfl #[.int .i64 (wrap64 ((wrap64 (t230 * t231)) + (wrap64 (t241 * t241)))),.int .i64 (wrap64 (t230 * t231))] rfl (by (try simp only [List.map_toArray,List.map_cons,List.map_nil]);first|done|rfl|(simp only [List.length_drop,List.length_take];rfl)) ?_;(with_reducible refine (ratio_Make.calls kj4 (wrap64 ((wrap64 (t230 * t231)) + (wrap64 (t241 * t241)))) (wrap64 (t230 * t231)) t242 t243 t244 _ A24.out).mono ?_);rintro e w25 ⟨rfl,hb⟩;refine ⟨_,rfl,?_⟩;have n0_:=A_ (blk_below (g:=gb229) (o:=.cells #[.int .i64 0,.int .i64 0] 29 (0,0)) (by (with_reducible repeat (first|refine blk_drewN ?_ _|refine blk_drew ?_|refine blk_alloc ?_ _));exact BK229.out) hb);have n1_:=A_ (below_step (by repeat (first|(with_reducible first|exact HB.out|apply ba|apply bb|apply bc|refine below_set ?_ GE229.out)|exact HB.out)) hb);clear BK229;clear HB;have BK229:=n0_;have HB:=n1_;clear n0_ n1_;(try clear hb);(try clear hb2);(try clear hk);(try clear hi);have hcz26_0 : w25.cell? ⟨gb229,0,none⟩ = some (.int .i64 0):=(blk_cell BK229.out 0).trans rfl;have hcz26_1 : w25.cell? ⟨gb229,1,none⟩ = some (.int .i64 0):=(blk_cell BK229.out 1).trans rfl;have hfz26_0:=blk_frozen BK229.out 0;have hfz26_1:=blk_frozen BK229.out 1))
       refine bodyPost_ret (results_ct rfl _ _ gb229 29 #[.int .i64 t242,.int .i64 t243] (0,0) _ rfl (by (with_reducible repeat (first|refine blk_drewN ?_ _|refine blk_drew ?_|refine blk_alloc ?_ _));refine blk_put (cs:=#[.int .i64 t242,.int .i64 0]) ?_ 1 _ rfl;(with_reducible repeat (first|refine blk_drewN ?_ _|refine blk_drew ?_|refine blk_alloc ?_ _));refine blk_put (cs:=#[.int .i64 0,.int .i64 0]) ?_ 0 _ rfl;(with_reducible repeat (first|refine blk_drewN ?_ _|refine blk_drew ?_|refine blk_alloc ?_ _));exact BK229.out) Try.underlying29 rfl (by kernel_rfl)) rfl ?_
       exact ⟨by first|rfl|(simp [errW_none,errW_some] <;> rfl)|(simp [*,errW_none,errW_some] <;> rfl),by repeat (first|(with_reducible first|exact HB.out|apply ba|apply bb|apply bc|refine below_set ?_ GE229.out)|exact HB.out)⟩
      ·
       rw [if_neg c23] at H
       have c23b0 : decide (t241 < 0) = false:=decide_eq_false c23
       clear c23
       replace H:=Option.bind_eq_some_iff.mp H
       obtain ⟨⟨t245,t246,t247⟩,A270,H⟩:=H
       replace H : (some (t245,t246,t247)) = some (r1,r2,r3):=H
       have A27:=A_ A270
       clear A270
       simp only [Option.some.injEq,Prod.mk.injEq] at H
       obtain ⟨rfl,rfl,rfl⟩:=H
       go_wp2_with (first|((with_reducible refine gate_callee (f:=35) rfl ?_);refine goesL_ (some 35) rfl rfl Try.func35 (by kernel_rfl) rfl #[.slice A0 l0.length c0,.slice A1 l1.length c1] rfl (by (try simp only [List.map_toArray,List.map_cons,List.map_nil]);first|done|rfl|(simp only [List.length_drop,List.length_take];rfl)) ?_;(with_reducible refine (normal_product.calls kj4 _ _ l0 _ _ l1 t241 _ ?side1 ?side2 ?side3 ?side4 A22.out).mono ?_);(case side1=>repeat (first|exact (cl HR0.out HB.out)|(with_reducible refine ca ?_ _)|(with_reducible refine cb ?_ _)|(with_reducible refine cc ?_)));(case side2=>exact HC0.out);(case side3=>repeat (first|exact (cl HR1.out HB.out)|(with_reducible refine ca ?_ _)|(with_reducible refine cb ?_ _)|(with_reducible refine cc ?_)));(case side4=>exact HC1.out);rintro e w' ⟨rfl,⟨nd,rfl⟩⟩;refine ⟨_,rfl,?_⟩;(try (rw [drewN_self wc];generalize hq_ : World.drewN wc _ = wc;have n0_ : Aside0 (wc.heap[gb229]? = some (.cells #[.int .i64 0,.int .i64 0] 29 (0,0))):=⟨by rw [← hq_];exact (by (with_reducible repeat (first|refine blk_drewN ?_ _|refine blk_drew ?_|refine blk_alloc ?_ _));exact BK229.out)⟩;have n1_ : Aside0 (Below w.heap.size w wc):=⟨by rw [← hq_];exact (by repeat (first|(with_reducible first|exact HB.out|apply ba|apply bb|apply bc|refine below_set ?_ GE229.out)|exact HB.out))⟩;clear BK229 HB hq_;have BK229:=n0_;have HB:=n1_;clear n0_ n1_)))|((with_reducible refine gate_callee (f:=54) rfl ?_);refine goesL_ (some 61) rfl rfl Try.func54 (by kernel_rfl) rfl #[.int .i64 (wrap64 ((wrap64 (t230 * t231)) - (wrap64 (t241 * t241)))),.int .i64 (wrap64 (t230 * t231))] rfl (by (try simp only [List.map_toArray,List.map_cons,List.map_nil]);first|done|rfl|(simp only [List.length_drop,List.length_take];rfl)) ?_;(with_reducible refine (ratio_Make.calls kj4 (wrap64 ((wrap64 (t230 * t231)) - (wrap64 (t241 * t241)))) (wrap64 (t230 * t231)) t245 t246 t247 _ A27.out).mono ?_);rintro e w28 ⟨rfl,hb⟩;refine ⟨_,rfl,?_⟩;have n0_:=A_ (blk_below (g:=gb229) (o:=.cells #[.int .i64 0,.int .i64 0] 29 (0,0)) (by (with_reducible repeat (first|refine blk_drewN ?_ _|refine blk_drew ?_|refine blk_alloc ?_ _));exact BK229.out) hb);have n1_:=A_ (below_step (by repeat (first|(with_reducible first|exact HB.out|apply ba|apply bb|apply bc|refine below_set ?_ GE229.out)|exact HB.out)) hb);clear BK229;clear HB;have BK229:=n0_;have HB:=n1_;clear n0_ n1_;(try clear hb);(try clear hb2);(try clear hk);(try clear hi);have hcz29_0 : w28.cell? ⟨gb229,0,none⟩ = some (.int .i64 0):=(blk_cell BK229.out 0).trans rfl;have hcz29_1 : w28.cell? ⟨gb229,1,none⟩ = some (.int .i64 0):=(blk_cell BK229.out 1).trans rfl;have hfz29_0:=blk_frozen BK229.out 0;have hfz29_1:=blk_frozen BK229.out 1))
       refine bodyPost_ret (results_ct rfl _ _ gb229 29 #[.int .i64 t245,.int .i64 t246] (0,0) _ rfl (by (with_reducible repeat (first|refine blk_drewN ?_ _|refine blk_drew ?_|refine blk_alloc ?_ _));refine blk_put (cs:=#[.int .i64 t245,.int .i64 0]) ?_ 1 _ rfl;(with_reducible repeat (first|refine blk_drewN ?_ _|refine blk_drew ?_|refine blk_alloc ?_ _));refine blk_put (cs:=#[.int .i64 0,.int .i64 0]) ?_ 0 _ rfl;(with_reducible repeat (first|refine blk_drewN ?_ _|refine blk_drew ?_|refine blk_alloc ?_ _));exact BK229.out) Try.underlying29 rfl (by kernel_rfl)) rfl ?_
       exact ⟨by first|rfl|(simp [errW_none,errW_some] <;> rfl)|(simp [*,errW_none,errW_some] <;> rfl),by repeat (first|(with_reducible first|exact HB.out|apply ba|apply bb|apply bc|refine below_set ?_ GE229.out)|exact HB.out)⟩

/-! ### normal_Gap: function 11 -/
def normal_Gap.f (k : Nat) (l0 : List Int) (l1 : List Int) : Option (Int × Int × Int):=(euclid_Distance.f k l0 l1).bind fun bt249=>(if bt249.2 = 0 then ((normal_gap.f k l0 l1).bind fun bt251=>(some (bt251.1,bt251.2.1,bt251.2.2))) else (some (0,0,bt249.2)))
theorem normal_Gap.mono : ∀ a0 a1 k,LeO (normal_Gap.f k a0 a1) (normal_Gap.f (k + 1) a0 a1):=by
 intro a0 a1 k
 unfold normal_Gap.f
 repeat' first
   | (with_reducible exact euclid_Distance.mono _ _ _)
   | (with_reducible exact normal_gap.mono _ _ _)
   | (with_reducible exact LeO.refl _)
   | (with_reducible exact LeO.none _)
   | (with_reducible refine LeO.ite ?_ ?_)
   | (with_reducible refine LeO.bind ?_ (fun _=>?_))
   | exact euclid_Distance.mono _ _ _
   | exact normal_gap.mono _ _ _
   | exact LeO.none _
   | refine LeO.ite ?_ ?_
   | refine LeO.bind ?_ (fun _=>?_)
set_option maxHeartbeats 8000000 in
set_option maxRecDepth 100000 in
theorem normal_Gap.calls (k : Nat) (A0 : Option Addr) (c0 : Nat) (l0 : List Int) (A1 : Option Addr) (c1 : Nat) (l1 : List Int) (r1 : Int) (r2 : Int) (r3 : Int) (w : World) (hr0 : Kd.C (Kd.int .i64) w A0 l0.length l0) (hc0 : l0.length ≤ c0) (hr1 : Kd.C (Kd.int .i64) w A1 l1.length l1) (hc1 : l1.length ≤ c1) (h : normal_Gap.f k l0 l1 = some (r1,r2,r3)) :
  Calls Try.prog 11 #[.slice A0 l0.length c0,.slice A1 l1.length c1] w fun e w'=>e = .returned (.tuple #[.agg #[.int .i64 r1,.int .i64 r2],.int .i64 r3])∧Below w.heap.size w w':=by
 have hu29:=Try.underlying29
 have HR0:=A_ hr0
 have HC0:=A_ hc0
 clear hr0 hc0
 have HR1:=A_ hr1
 have HC1:=A_ hc1
 clear hr1 hc1
 have HB:=A_ (Below.refl w.heap.size w)
 have H : ((euclid_Distance.f k l0 l1).bind fun bt249=>(if bt249.2 = 0 then ((normal_gap.f k l0 l1).bind fun bt251=>(some (bt251.1,bt251.2.1,bt251.2.2))) else (some (0,0,bt249.2)))) = some (r1,r2,r3):=h
 clear h
 replace H:=Option.bind_eq_some_iff.mp H
 obtain ⟨⟨t249,t250⟩,A30,H⟩:=H
 replace H : (if t250 = 0 then ((normal_gap.f k l0 l1).bind fun bt251=>(some (bt251.1,bt251.2.1,bt251.2.2))) else (some (0,0,t250))) = some (r1,r2,r3):=H
 have A3:=A_ A30
 clear A30
 by_cases c4 : t250 = 0
 ·
  rw [if_pos c4] at H
  have c4b0 : (t250 == 0) = true:=beq_iff_eq.mpr c4
  have c4b1 : (t250 != 0) = false:=bne_eq_false_iff_eq.mpr c4
  clear c4
  replace H:=Option.bind_eq_some_iff.mp H
  obtain ⟨⟨t251,t252,t253⟩,A50,H⟩:=H
  replace H : (some (t251,t252,t253)) = some (r1,r2,r3):=H
  have A5:=A_ A50
  clear A50
  simp only [Option.some.injEq,Prod.mk.injEq] at H
  obtain ⟨rfl,rfl,rfl⟩:=H
  go_enter Try.func11,Try.ntmps11
  go_wp2_with (first|((with_reducible refine gate_dst (N:=4) rfl ?_);refine box_event ?hg (N:=4) ?hd (cs:=#[.int .i64 0,.int .i64 0]) (t:=29) ?hr ?_;(case hd=>rfl);(case hg=>rfl);(case hr=>first|(go_simp;done)|(go_simp;rfl));intro gb248 hg w6 hbox hb;have n0_:=A_ (below_step (by repeat (first|(with_reducible first|exact HB.out|apply ba|apply bb|apply bc)|exact HB.out)) hb);have n1_:=A_ (hbox);have n2_:=A_ ((by rw [hg];exact (below_size (by repeat (first|(with_reducible first|exact HB.out|apply ba|apply bb|apply bc)|exact HB.out))) : w.heap.size ≤ gb248));have n3_:=A_ ((by rw [hg];exact (below_size (by repeat (first|(with_reducible first|exact HB.out|apply ba|apply bb|apply bc)|exact HB.out))) : w.heap.size ≤ gb248));clear HB;have HB:=n0_;have BK248:=n1_;have GW248:=n2_;have GE248:=n3_;clear n0_ n1_ n2_ n3_;clear hb hbox hg)|((with_reducible refine gate_callee (f:=33) rfl ?_);refine goesL_ (some 11) rfl rfl Try.func33 (by kernel_rfl) rfl #[.slice A0 l0.length c0,.slice A1 l1.length c1] rfl (by (try simp only [List.map_toArray,List.map_cons,List.map_nil]);first|done|rfl|(simp only [List.length_drop,List.length_take];rfl)) ?_;(with_reducible refine (euclid_Distance.calls k _ _ l0 _ _ l1 t249 t250 _ ?side1 ?side2 ?side3 ?side4 A3.out).mono ?_);(case side1=>repeat (first|exact (cl HR0.out HB.out)|(with_reducible refine ca ?_ _)|(with_reducible refine cb ?_ _)|(with_reducible refine cc ?_)));(case side2=>exact HC0.out);(case side3=>repeat (first|exact (cl HR1.out HB.out)|(with_reducible refine ca ?_ _)|(with_reducible refine cb ?_ _)|(with_reducible refine cc ?_)));(case side4=>exact HC1.out);rintro e w' ⟨rfl,⟨nd,rfl⟩⟩;refine ⟨_,rfl,?_⟩;(try (rw [drewN_self w6];generalize hq_ : World.drewN w6 _ = w6;have n0_ : Aside0 (w6.heap[gb248]? = some (.cells #[.int .i64 0,.int .i64 0] 29 (0,0))):=⟨by rw [← hq_];exact (by (with_reducible repeat (first|refine blk_drewN ?_ _|refine blk_drew ?_|refine blk_alloc ?_ _));exact BK248.out)⟩;have n1_ : Aside0 (Below w.heap.size w w6):=⟨by rw [← hq_];exact (by repeat (first|(with_reducible first|exact HB.out|apply ba|apply bb|apply bc|refine below_set ?_ GE248.out)|exact HB.out))⟩;clear BK248 HB hq_;have BK248:=n0_;have HB:=n1_;clear n0_ n1_)))|((with_reducible refine gate_callee (f:=34) rfl ?_);refine goesL_ (some 20) rfl rfl Try.func34 (by kernel_rfl) rfl #[.slice A0 l0.length c0,.slice A1 l1.length c1] rfl (by (try simp only [List.map_toArray,List.map_cons,List.map_nil]);first|done|rfl|(simp only [List.length_drop,List.length_take];rfl)) ?_;(with_reducible refine (normal_gap.calls k _ _ l0 _ _ l1 t251 t252 t253 _ ?side1 ?side2 ?side3 ?side4 A5.out).mono ?_);(case side1=>repeat (first|exact (cl HR0.out HB.out)|(with_reducible refine ca ?_ _)|(with_reducible refine cb ?_ _)|(with_reducible refine cc ?_)));(case side2=>exact HC0.out);(case side3=>repeat (first|exact (cl HR1.out HB.out)|(with_reducible refine ca ?_ _)|(with_reducible refine cb ?_ _)|(with_reducible refine cc ?_)));(case side4=>exact HC1.out);rintro e w7 ⟨rfl,hb⟩;refine ⟨_,rfl,?_⟩;have n0_:=A_ (blk_below (g:=gb248) (o:=.cells #[.int .i64 0,.int .i64 0] 29 (0,0)) (by (with_reducible repeat (first|refine blk_drewN ?_ _|refine blk_drew ?_|refine blk_alloc ?_ _));exact BK248.out) hb);have n1_:=A_ (below_step (by repeat (first|(with_reducible first|exact HB.out|apply ba|apply bb|apply bc|refine below_set ?_ GE248.out)|exact HB.out)) hb);clear BK248;clear HB;have BK248:=n0_;have HB:=n1_;clear n0_ n1_;(try clear hb);(try clear hb2);(try clear hk);(try clear hi);have hcz8_0 : w7.cell? ⟨gb248,0,none⟩ = some (.int .i64 0):=(blk_cell BK248.out 0).trans rfl;have hcz8_1 : w7.cell? ⟨gb248,1,none⟩ = some (.int .i64 0):=(blk_cell BK248.out 1).trans rfl;have hfz8_0:=blk_frozen BK248.out 0;have hfz8_1:=blk_frozen BK248.out 1))
  refine bodyPost_ret (results_ct rfl _ _ gb248 29 #[.int .i64 t251,.int .i64 t252] (0,0) _ rfl (by (with_reducible repeat (first|refine blk_drewN ?_ _|refine blk_drew ?_|refine blk_alloc ?_ _));refine blk_put (cs:=#[.int .i64 t251,.int .i64 0]) ?_ 1 _ rfl;(with_reducible repeat (first|refine blk_drewN ?_ _|refine blk_drew ?_|refine blk_alloc ?_ _));refine blk_put (cs:=#[.int .i64 0,.int .i64 0]) ?_ 0 _ rfl;(with_reducible repeat (first|refine blk_drewN ?_ _|refine blk_drew ?_|refine blk_alloc ?_ _));exact BK248.out) Try.underlying29 rfl (by kernel_rfl)) rfl ?_
  exact ⟨by first|rfl|(simp [errW_none,errW_some] <;> rfl)|(simp [*,errW_none,errW_some] <;> rfl),by repeat (first|(with_reducible first|exact HB.out|apply ba|apply bb|apply bc|refine below_set ?_ GE248.out)|exact HB.out)⟩
 ·
  rw [if_neg c4] at H
  have c4b0 : (t250 == 0) = false:=beq_eq_false_iff_ne.mpr c4
  have c4b1 : (t250 != 0) = true:=bne_iff_ne.mpr c4
  simp only [Option.some.injEq,Prod.mk.injEq] at H
  obtain ⟨rfl,rfl,rfl⟩:=H
  go_enter Try.func11,Try.ntmps11
  go_wp2_with (first|((with_reducible refine gate_dst (N:=4) rfl ?_);refine box_event ?hg (N:=4) ?hd (cs:=#[.int .i64 0,.int .i64 0]) (t:=29) ?hr ?_;(case hd=>rfl);(case hg=>rfl);(case hr=>first|(go_simp;done)|(go_simp;rfl));intro gb248 hg w9 hbox hb;have n0_:=A_ (below_step (by repeat (first|(with_reducible first|exact HB.out|apply ba|apply bb|apply bc)|exact HB.out)) hb);have n1_:=A_ (hbox);have n2_:=A_ ((by rw [hg];exact (below_size (by repeat (first|(with_reducible first|exact HB.out|apply ba|apply bb|apply bc)|exact HB.out))) : w.heap.size ≤ gb248));have n3_:=A_ ((by rw [hg];exact (below_size (by repeat (first|(with_reducible first|exact HB.out|apply ba|apply bb|apply bc)|exact HB.out))) : w.heap.size ≤ gb248));clear HB;have HB:=n0_;have BK248:=n1_;have GW248:=n2_;have GE248:=n3_;clear n0_ n1_ n2_ n3_;clear hb hbox hg)|((with_reducible refine gate_callee (f:=33) rfl ?_);refine goesL_ (some 11) rfl rfl Try.func33 (by kernel_rfl) rfl #[.slice A0 l0.length c0,.slice A1 l1.length c1] rfl (by (try simp only [List.map_toArray,List.map_cons,List.map_nil]);first|done|rfl|(simp only [List.length_drop,List.length_take];rfl)) ?_;(with_reducible refine (euclid_Distance.calls k _ _ l0 _ _ l1 t249 t250 _ ?side1 ?side2 ?side3 ?side4 A3.out).mono ?_);(case side1=>repeat (first|exact (cl HR0.out HB.out)|(with_reducible refine ca ?_ _)|(with_reducible refine cb ?_ _)|(with_reducible refine cc ?_)));(case side2=>exact HC0.out);(case side3=>repeat (first|exact (cl HR1.out HB.out)|(with_reducible refine ca ?_ _)|(with_reducible refine cb ?_ _)|(with_reducible refine cc ?_)));(case side4=>exact HC1.out);rintro e w' ⟨rfl,⟨nd,rfl⟩⟩;refine ⟨_,rfl,?_⟩;(try (rw [drewN_self w9];generalize hq_ : World.drewN w9 _ = w9;have n0_ : Aside0 (w9.heap[gb248]? = some (.cells #[.int .i64 0,.int .i64 0] 29 (0,0))):=⟨by rw [← hq_];exact (by (with_reducible repeat (first|refine blk_drewN ?_ _|refine blk_drew ?_|refine blk_alloc ?_ _));exact BK248.out)⟩;have n1_ : Aside0 (Below w.heap.size w w9):=⟨by rw [← hq_];exact (by repeat (first|(with_reducible first|exact HB.out|apply ba|apply bb|apply bc|refine below_set ?_ GE248.out)|exact HB.out))⟩;clear BK248 HB hq_;have BK248:=n0_;have HB:=n1_;clear n0_ n1_));have hcz10_0 : w9.cell? ⟨gb248,0,none⟩ = some (.int .i64 0):=(blk_cell BK248.out 0).trans rfl;have hcz10_1 : w9.cell? ⟨gb248,1,none⟩ = some (.int .i64 0):=(blk_cell BK248.out 1).trans rfl;have hfz10_0:=blk_frozen BK248.out 0;have hfz10_1:=blk_frozen BK248.out 1))
  refine bodyPost_ret (results_ct rfl _ _ gb248 29 #[.int .i64 0,.int .i64 0] (0,0) _ rfl (by (with_reducible repeat (first|refine blk_drewN ?_ _|refine blk_drew ?_|refine blk_alloc ?_ _));refine blk_put (cs:=#[.int .i64 0,.int .i64 0]) ?_ 1 _ rfl;(with_reducible repeat (first|refine blk_drewN ?_ _|refine blk_drew ?_|refine blk_alloc ?_ _));refine blk_put (cs:=#[.int .i64 0,.int .i64 0]) ?_ 0 _ rfl;(with_reducible repeat (first|refine blk_drewN ?_ _|refine blk_drew ?_|refine blk_alloc ?_ _));exact BK248.out) Try.underlying29 rfl (by kernel_rfl)) rfl ?_
  exact ⟨by first|rfl|(simp [errW_none,errW_some] <;> rfl)|(simp [*,errW_none,errW_some] <;> rfl),by repeat (first|(with_reducible first|exact HB.out|apply ba|apply bb|apply bc|refine below_set ?_ GE248.out)|exact HB.out)⟩

/-! ### shapesearchlaw13_spread: function 12 -/
def shapesearchlaw13_spread.l0 : Nat → List Int → Int → Int → Option (Bool)
 | 0,_,_,_=>none
 | k + 1,x0,x5,x6=>if x6 < x5 then (if 0 ≤ x6 then (if x6 < (x0.length : Int) then (if 0 < (x0.length : Int) then (if (rd x0 x6) = (rd x0 0) then (shapesearchlaw13_spread.l0 k x0 x5 (wrap64 (x6 + 1))) else (some true)) else (none)) else (none)) else (none)) else (some false)
def shapesearchlaw13_spread.f (k : Nat) (l0 : List Int) : Option (Bool):=shapesearchlaw13_spread.l0 k l0 (l0.length : Int) 0
theorem shapesearchlaw13_spread.mono_l : ∀ k,(∀ y0 y1 y2,LeO (shapesearchlaw13_spread.l0 k y0 y1 y2) (shapesearchlaw13_spread.l0 (k + 1) y0 y1 y2))
 | 0=>fun _ _ _ r h=>by simp [shapesearchlaw13_spread.l0] at h
 | k + 1=>by
  have ih0:=shapesearchlaw13_spread.mono_l k
  ·
   intro y0 y1 y2
   unfold shapesearchlaw13_spread.l0
   repeat' first
   | (with_reducible exact ih0 _ _ _)
   | (with_reducible exact LeO.refl _)
   | (with_reducible exact LeO.none _)
   | (with_reducible refine LeO.ite ?_ ?_)
   | (with_reducible refine LeO.bind ?_ (fun _=>?_))
   | exact ih0 _ _ _
   | exact LeO.none _
   | refine LeO.ite ?_ ?_
   | refine LeO.bind ?_ (fun _=>?_)
theorem shapesearchlaw13_spread.mono : ∀ a0 k,LeO (shapesearchlaw13_spread.f k a0) (shapesearchlaw13_spread.f (k + 1) a0):=by
 intro a0 k
 have ih0:=shapesearchlaw13_spread.mono_l k
 unfold shapesearchlaw13_spread.f
 repeat' first
   | (with_reducible exact ih0 _ _ _)
   | (with_reducible exact LeO.refl _)
   | (with_reducible exact LeO.none _)
   | (with_reducible refine LeO.ite ?_ ?_)
   | (with_reducible refine LeO.bind ?_ (fun _=>?_))
   | exact ih0 _ _ _
   | exact LeO.none _
   | refine LeO.ite ?_ ?_
   | refine LeO.bind ?_ (fun _=>?_)
set_option maxHeartbeats 8000000 in
set_option maxRecDepth 100000 in
theorem shapesearchlaw13_spread.calls (k : Nat) (A0 : Option Addr) (c0 : Nat) (l0 : List Int) (r : Bool) (w : World) (hr0 : Kd.C (Kd.int .i64) w A0 l0.length l0) (hc0 : l0.length ≤ c0) (h : shapesearchlaw13_spread.f k l0 = some r) :
  Calls Try.prog 12 #[.slice A0 l0.length c0] w fun e w'=>e = .returned (.bool r)∧Drawn0 w w':=by
 have HR0:=A_ hr0
 have HC0:=A_ hc0
 clear hr0 hc0
 have H : (shapesearchlaw13_spread.l0 k l0 (l0.length : Int) 0) = some r:=h
 clear h
 have H':=A_ H
 clear H
 go_enter Try.func12,Try.ntmps12
 go_wp2
 repeat (go_quiet (fail);try go_wp2)
 go_loopg [6] k (fun kq v6 w'=>∃ (x6_1 : Int),v6 = .int .i64 x6_1∧Aside0 (shapesearchlaw13_spread.l0 kq l0 (l0.length : Int) x6_1 = some r)∧Aside0 (kq ≤ k)∧Drawn0 w w')
 case atStart=>exact ⟨(0),(by first|rfl|(simp;done)|(simp [*];done)),H',⟨Nat.le_refl _⟩,by repeat (first|exact Drawn0.refl _|apply Drawn0.step)⟩
 case round =>
  clear H'
  try clear c1
  obtain ⟨x6_1,rfl,HA,HK1,⟨m1,rfl⟩⟩:=hrel
  cases gk with
  | zero=>exact absurd HA.out (by simp [shapesearchlaw13_spread.l0])
  | succ k1 =>
   have H:=HA.out
   clear HA
   simp only [shapesearchlaw13_spread.l0] at H
   by_cases c2 : x6_1 < (l0.length : Int)
   ·
    rw [if_pos c2] at H
    have c2b0 : decide (x6_1 < (l0.length : Int)) = true:=decide_eq_true c2
    clear c2
    by_cases c3 : 0 ≤ x6_1
    ·
     rw [if_pos c3] at H
     have c3b0 : decide (0 ≤ x6_1) = true:=decide_eq_true c3
     clear c3
     by_cases c4 : x6_1 < (l0.length : Int)
     ·
      rw [if_pos c4] at H
      have c4b0 : decide (x6_1 < (l0.length : Int)) = true:=decide_eq_true c4
      clear c4
      by_cases c5 : 0 < (l0.length : Int)
      ·
       rw [if_pos c5] at H
       have c5b0 : decide (0 < (l0.length : Int)) = true:=decide_eq_true c5
       have c5b1 : decide (0 < l0.length) = true:=decide_eq_true (by omega)
       clear c5
       by_cases c6 : (rd l0 x6_1) = (rd l0 0)
       ·
        rw [if_pos c6] at H
        have c6b0 : ((rd l0 x6_1) == (rd l0 0)) = true:=beq_iff_eq.mpr c6
        have c6b1 : ((rd l0 x6_1) != (rd l0 0)) = false:=bne_eq_false_iff_eq.mpr c6
        clear c6
        have H':=A_ H
        clear H
        have p254 : 0 ≤ (x6_1 : Int):=of_decide_eq_true (by first|(with_reducible assumption)|assumption)
        have q254 : x6_1 < (l0.length : Int):=of_decide_eq_true (by first|(with_reducible assumption)|assumption)
        obtain ⟨ad254,e254,hx254_0⟩:=Kd.at_int HR0.out x6_1 p254 q254
        cases e254
        replace p254:=eq_true p254
        replace q254:=eq_true q254
        have p255 : 0 ≤ (0 : Int):=(by omega)
        have q255 : 0 < (l0.length : Int):=of_decide_eq_true (by first|(with_reducible assumption)|assumption)
        obtain ⟨ad255,e255,hx255_0⟩:=Kd.at_int HR0.out 0 p255 q255
        obtain rfl : ad254 = ad255:=(by injection e255)
        have qi255 : (0 < l0.length) = True:=eq_true (by omega)
        (try rw [show ((0 : Int)).toNat = 0 from rfl] at hx255_0)
        (try rw [Addr.add_zero'] at hx255_0)
        replace p255:=eq_true p255
        replace q255:=eq_true q255
        go_wp2
        repeat (go_quiet (fail);try go_wp2)
        go_roundg k1
        case measure=>have:=HK1.out;omega
        case rel=>exact ⟨(wrap64 (x6_1 + 1)),(by first|rfl|(simp;done)|(simp [*];done)),H',⟨by have:=HK1.out;omega⟩,by repeat (first|exact Drawn0.refl _|apply Drawn0.step)⟩
       ·
        rw [if_neg c6] at H
        have c6b0 : ((rd l0 x6_1) == (rd l0 0)) = false:=beq_eq_false_iff_ne.mpr c6
        have c6b1 : ((rd l0 x6_1) != (rd l0 0)) = true:=bne_iff_ne.mpr c6
        obtain rfl:=Option.some.inj H
        have p254 : 0 ≤ (x6_1 : Int):=of_decide_eq_true (by first|(with_reducible assumption)|assumption)
        have q254 : x6_1 < (l0.length : Int):=of_decide_eq_true (by first|(with_reducible assumption)|assumption)
        obtain ⟨ad254,e254,hx254_0⟩:=Kd.at_int HR0.out x6_1 p254 q254
        cases e254
        replace p254:=eq_true p254
        replace q254:=eq_true q254
        have p255 : 0 ≤ (0 : Int):=(by omega)
        have q255 : 0 < (l0.length : Int):=of_decide_eq_true (by first|(with_reducible assumption)|assumption)
        obtain ⟨ad255,e255,hx255_0⟩:=Kd.at_int HR0.out 0 p255 q255
        obtain rfl : ad254 = ad255:=(by injection e255)
        have qi255 : (0 < l0.length) = True:=eq_true (by omega)
        (try rw [show ((0 : Int)).toNat = 0 from rfl] at hx255_0)
        (try rw [Addr.add_zero'] at hx255_0)
        replace p255:=eq_true p255
        replace q255:=eq_true q255
        go_wp2
        repeat (go_quiet (fail);try go_wp2)
        go_ret
        exact ⟨by first|rfl|(simp;done)|(simp [*];done),by repeat (first|exact Drawn0.refl _|apply Drawn0.step)⟩
      ·
       rw [if_neg c5] at H
       exact absurd H (by simp)
     ·
      rw [if_neg c4] at H
      exact absurd H (by simp)
    ·
     rw [if_neg c3] at H
     exact absurd H (by simp)
   ·
    rw [if_neg c2] at H
    have c2b0 : decide (x6_1 < (l0.length : Int)) = false:=decide_eq_false c2
    clear c2
    obtain rfl:=Option.some.inj H
    go_wp2
    repeat (go_quiet (fail);try go_wp2)
    go_ret
    exact ⟨by first|rfl|(simp;done)|(simp [*];done),by repeat (first|exact Drawn0.refl _|apply Drawn0.step)⟩

end Go.Proofs.Ytmckmjpfcgmalaa.PNormalRange
