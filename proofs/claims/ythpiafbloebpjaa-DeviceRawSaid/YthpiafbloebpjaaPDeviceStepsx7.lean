/- This file proves, function by function, what the Go functions that one law uses compute; most of it was printed by a program (wip/tools of this session, over the kit's print). -/
import Derived.Test.YthpiafbloebpjaaPDeviceStepsx0
namespace Go.Proofs.Ythpiafbloebpjaa.PDeviceSteps
open Go.RowKit Go.Proofs.YthpiafbloebpjaaW.PrintWords Go.Proofs.YthpiafbloebpjaaW.PrintLast Go.Proofs.YthpiafbloebpjaaW.PrintMore
attribute [local go_sem] max2_int min2_int max_two min_two max_three min_three max_four min_four   -- for this text's walks alone
set_option linter.unusedVariables false
set_option linter.unusedSimpArgs false

/-! ### shapesearchref24_Valid: function 20 -/
mutual
def shapesearchref24_Valid.j0 : Nat → Bool → List (List Int) → List (S42) → Option (Bool)
 | 0,_,_,_=>none
 | k + 1,x21,x208000,x208001=>if x21 = true then (some false) else (shapesearchref24_Valid.l0 k 0 x208000 x208001)
def shapesearchref24_Valid.l0 : Nat → Int → List (List Int) → List (S42) → Option (Bool)
 | 0,_,_,_=>none
 | k + 1,x3,x208000,x208001=>if x3 < (x208000.length : Int) then (if 0 ≤ x3 then (if ((rd_L1 x208000 x3).length : Int) = 64 then (shapesearchref24_Valid.l0 k (wrap64 (x3 + 1)) x208000 x208001) else (some false)) else (none)) else (shapesearchref24_Valid.l1 k 0 x208000 x208001)
def shapesearchref24_Valid.l1 : Nat → Int → List (List Int) → List (S42) → Option (Bool)
 | 0,_,_,_=>none
 | k + 1,x4,x208000,x208001=>if x4 < (x208001.length : Int) then (if 0 ≤ x4 then (if ((rd_T42 x208001 x4).f0) < 0 then (some false) else (if ((rd_T42 x208001 x4).f0) ≥ (x208000.length : Int) then (some false) else (if (((rd_T42 x208001 x4).f1).length : Int) = 64 then (shapesearchref24_Valid.l1 k (wrap64 (x4 + 1)) x208000 x208001) else (some false)))) else (none)) else (some true)
end
def shapesearchref24_Valid.f (k : Nat) (l0_0 : List (List Int)) (l0_1 : List (S42)) : Option (Bool):=if (l0_0.length : Int) < 1 then (shapesearchref24_Valid.j0 k true l0_0 l0_1) else (if (l0_0.length : Int) > 256 then (shapesearchref24_Valid.j0 k true l0_0 l0_1) else (shapesearchref24_Valid.j0 k (decide ((l0_1.length : Int) > 300)) l0_0 l0_1))
theorem shapesearchref24_Valid.mono_l : ∀ k,(∀ y0 y1 y2,LeO (shapesearchref24_Valid.j0 k y0 y1 y2) (shapesearchref24_Valid.j0 (k + 1) y0 y1 y2))∧(∀ y0 y1 y2,LeO (shapesearchref24_Valid.l0 k y0 y1 y2) (shapesearchref24_Valid.l0 (k + 1) y0 y1 y2))∧(∀ y0 y1 y2,LeO (shapesearchref24_Valid.l1 k y0 y1 y2) (shapesearchref24_Valid.l1 (k + 1) y0 y1 y2))
 | 0=>⟨fun _ _ _ r h=>by simp [shapesearchref24_Valid.j0] at h,fun _ _ _ r h=>by simp [shapesearchref24_Valid.l0] at h,fun _ _ _ r h=>by simp [shapesearchref24_Valid.l1] at h⟩
 | k + 1=>by
  obtain ⟨ih0,ih1,ih2⟩:=shapesearchref24_Valid.mono_l k
  refine ⟨?_,?_,?_⟩
  ·
   intro y0 y1 y2
   unfold shapesearchref24_Valid.j0
   repeat' first
   | (with_reducible exact ih0 _ _ _)
   | (with_reducible exact ih1 _ _ _)
   | (with_reducible exact ih2 _ _ _)
   | (with_reducible exact LeO.refl _)
   | (with_reducible exact LeO.none _)
   | (with_reducible refine LeO.ite ?_ ?_)
   | (with_reducible refine LeO.bind ?_ (fun _=>?_))
   | exact ih0 _ _ _
   | exact ih1 _ _ _
   | exact ih2 _ _ _
   | exact LeO.none _
   | refine LeO.ite ?_ ?_
   | refine LeO.bind ?_ (fun _=>?_)
  ·
   intro y0 y1 y2
   unfold shapesearchref24_Valid.l0
   repeat' first
   | (with_reducible exact ih0 _ _ _)
   | (with_reducible exact ih1 _ _ _)
   | (with_reducible exact ih2 _ _ _)
   | (with_reducible exact LeO.refl _)
   | (with_reducible exact LeO.none _)
   | (with_reducible refine LeO.ite ?_ ?_)
   | (with_reducible refine LeO.bind ?_ (fun _=>?_))
   | exact ih0 _ _ _
   | exact ih1 _ _ _
   | exact ih2 _ _ _
   | exact LeO.none _
   | refine LeO.ite ?_ ?_
   | refine LeO.bind ?_ (fun _=>?_)
  ·
   intro y0 y1 y2
   unfold shapesearchref24_Valid.l1
   repeat' first
   | (with_reducible exact ih0 _ _ _)
   | (with_reducible exact ih1 _ _ _)
   | (with_reducible exact ih2 _ _ _)
   | (with_reducible exact LeO.refl _)
   | (with_reducible exact LeO.none _)
   | (with_reducible refine LeO.ite ?_ ?_)
   | (with_reducible refine LeO.bind ?_ (fun _=>?_))
   | exact ih0 _ _ _
   | exact ih1 _ _ _
   | exact ih2 _ _ _
   | exact LeO.none _
   | refine LeO.ite ?_ ?_
   | refine LeO.bind ?_ (fun _=>?_)
theorem shapesearchref24_Valid.mono : ∀ a0 a1 k,LeO (shapesearchref24_Valid.f k a0 a1) (shapesearchref24_Valid.f (k + 1) a0 a1):=by
 intro a0 a1 k
 obtain ⟨ih0,ih1,ih2⟩:=shapesearchref24_Valid.mono_l k
 unfold shapesearchref24_Valid.f
 repeat' first
   | (with_reducible exact ih0 _ _ _)
   | (with_reducible exact ih1 _ _ _)
   | (with_reducible exact ih2 _ _ _)
   | (with_reducible exact LeO.refl _)
   | (with_reducible exact LeO.none _)
   | (with_reducible refine LeO.ite ?_ ?_)
   | (with_reducible refine LeO.bind ?_ (fun _=>?_))
   | exact ih0 _ _ _
   | exact ih1 _ _ _
   | exact ih2 _ _ _
   | exact LeO.none _
   | refine LeO.ite ?_ ?_
   | refine LeO.bind ?_ (fun _=>?_)
set_option maxHeartbeats 8000000 in
set_option maxRecDepth 100000 in
theorem shapesearchref24_Valid.calls (k : Nat) (A0_0 : Option Addr) (c0_0 : Nat) (l0_0 : List (List Int)) (A0_1 : Option Addr) (c0_1 : Nat) (l0_1 : List (S42)) (r : Bool) (w : World) (hr0_0 : Kd.C (Kd.slice 5 (Kd.int .u8)) w A0_0 l0_0.length l0_0) (hc0_0 : l0_0.length ≤ c0_0) (hr0_1 : Kd.C k42 w A0_1 l0_1.length l0_1) (hc0_1 : l0_1.length ≤ c0_1) (h : shapesearchref24_Valid.f k l0_0 l0_1 = some r) :
  Calls Try.prog 20 #[.agg #[.slice A0_0 l0_0.length c0_0,.slice A0_1 l0_1.length c0_1]] w fun e w'=>e = .returned (.bool r)∧Below w.heap.size w w':=by
 have hu25:=Try.underlying25
 have hu42:=Try.underlying42
 have HR0_0:=A_ hr0_0
 have HC0_0:=A_ hc0_0
 clear hr0_0 hc0_0
 have HR0_1:=A_ hr0_1
 have HC0_1:=A_ hc0_1
 clear hr0_1 hc0_1
 have HB:=A_ (Below.refl w.heap.size w)
 have H : (if (l0_0.length : Int) < 1 then (shapesearchref24_Valid.j0 k true l0_0 l0_1) else (if (l0_0.length : Int) > 256 then (shapesearchref24_Valid.j0 k true l0_0 l0_1) else (shapesearchref24_Valid.j0 k (decide ((l0_1.length : Int) > 300)) l0_0 l0_1))) = some r:=h
 clear h
 have HC2:=A_ H
 clear H
 go_enter Try.func20,Try.ntmps20
 go_upto_region 1 with (first|((with_reducible refine gate_dst (N:=1) rfl ?_);(try (refine gate_guard (by rfl) ?_;dsimp only));refine box_event ?hg (N:=1) ?hd (cs:=#[.slice A0_0 l0_0.length c0_0,.slice A0_1 l0_1.length c0_1]) (t:=25) ?hr ?_;(case hd=>rfl);(case hg=>rfl);(case hr=>first|(go_simp;done)|(go_simp;rfl));intro gb207 hg w3 hbox hb;have n0_:=A_ (below_step (by repeat (first|(with_reducible first|exact HB.out|apply ba|apply bb|apply bc)|exact HB.out)) hb);have n1_:=A_ (hbox);have n2_:=A_ ((by rw [hg];exact (below_size (by repeat (first|(with_reducible first|exact HB.out|apply ba|apply bb|apply bc)|exact HB.out))) : w.heap.size ≤ gb207));have n3_:=A_ ((by rw [hg];exact (below_size (by repeat (first|(with_reducible first|exact HB.out|apply ba|apply bb|apply bc)|exact HB.out))) : w.heap.size ≤ gb207));clear HB;have HB:=n0_;have BK207:=n1_;have GW207:=n2_;have GE207:=n3_;clear n0_ n1_ n2_ n3_;clear hb hbox hg))
 (try simp only [Act.put,List.setIfInBounds_toArray,List.set_cons_zero,List.set_cons_succ])
 go_cut [21] (fun v21 wc=>∃ (kq : Nat) (x21_1 : Bool),v21 = .bool x21_1∧Aside0 (shapesearchref24_Valid.j0 kq x21_1 l0_0 l0_1 = some r)∧Aside0 (kq ≤ k)∧Aside0 (wc.heap[gb207]? = some (.cells #[(.slice A0_0 l0_0.length c0_0),(.slice A0_1 l0_1.length c0_1)] 25 (0,0)))∧Aside0 (Below w.heap.size w wc))
 case first =>
  have H:=HC2.out
  clear HC2
  by_cases c4 : (l0_0.length : Int) < 1
  ·
   rw [if_pos c4] at H
   have c4b0 : decide ((l0_0.length : Int) < 1) = true:=decide_eq_true c4
   have c4b1 : decide (l0_0.length < 1) = true:=decide_eq_true (by omega)
   clear c4
   (first|rw [c4b0]|(simp only [i64_w,i32_w];rw [c4b0])|skip)
   have H':=A_ H
   clear H
   have hcz5_0 : w3.cell? ⟨gb207,0,none⟩ = some (.slice A0_0 l0_0.length c0_0):=(blk_cell BK207.out 0).trans rfl
   have hcz5_1 : w3.cell? ⟨gb207,1,none⟩ = some (.slice A0_1 l0_1.length c0_1):=(blk_cell BK207.out 1).trans rfl
   have hfz5_0:=blk_frozen BK207.out 0
   have hfz5_1:=blk_frozen BK207.out 1
   go_wp2
   go_meet
   case rel=>exact ⟨_,(true),(by first|rfl|(simp;done)|(simp [*];done)),H',⟨by first|omega|exact Nat.le_refl _⟩,⟨by (with_reducible repeat (first|refine blk_drewN ?_ _|refine blk_drew ?_|refine blk_alloc ?_ _));exact BK207.out⟩,⟨by repeat (first|(with_reducible first|exact HB.out|apply ba|apply bb|apply bc|refine below_set ?_ GE207.out)|exact HB.out)⟩⟩
  ·
   rw [if_neg c4] at H
   have c4b0 : decide ((l0_0.length : Int) < 1) = false:=decide_eq_false c4
   have c4b1 : decide (l0_0.length < 1) = false:=decide_eq_false (by omega)
   clear c4
   (first|rw [c4b0]|(simp only [i64_w,i32_w];rw [c4b0])|skip)
   by_cases c6 : (l0_0.length : Int) > 256
   ·
    rw [if_pos c6] at H
    have c6b0 : decide (256 < (l0_0.length : Int)) = true:=decide_eq_true c6
    have c6b1 : decide (256 < l0_0.length) = true:=decide_eq_true (by omega)
    clear c6
    have H':=A_ H
    clear H
    have hcz7_0 : w3.cell? ⟨gb207,0,none⟩ = some (.slice A0_0 l0_0.length c0_0):=(blk_cell BK207.out 0).trans rfl
    have hcz7_1 : w3.cell? ⟨gb207,1,none⟩ = some (.slice A0_1 l0_1.length c0_1):=(blk_cell BK207.out 1).trans rfl
    have hfz7_0:=blk_frozen BK207.out 0
    have hfz7_1:=blk_frozen BK207.out 1
    go_wp2
    go_meet
    case rel=>exact ⟨_,(true),(by first|rfl|(simp;done)|(simp [*];done)),H',⟨by first|omega|exact Nat.le_refl _⟩,⟨by (with_reducible repeat (first|refine blk_drewN ?_ _|refine blk_drew ?_|refine blk_alloc ?_ _));exact BK207.out⟩,⟨by repeat (first|(with_reducible first|exact HB.out|apply ba|apply bb|apply bc|refine below_set ?_ GE207.out)|exact HB.out)⟩⟩
   ·
    rw [if_neg c6] at H
    have c6b0 : decide (256 < (l0_0.length : Int)) = false:=decide_eq_false c6
    have c6b1 : decide (256 < l0_0.length) = false:=decide_eq_false (by omega)
    clear c6
    have H':=A_ H
    clear H
    have hcz8_0 : w3.cell? ⟨gb207,0,none⟩ = some (.slice A0_0 l0_0.length c0_0):=(blk_cell BK207.out 0).trans rfl
    have hcz8_1 : w3.cell? ⟨gb207,1,none⟩ = some (.slice A0_1 l0_1.length c0_1):=(blk_cell BK207.out 1).trans rfl
    have hfz8_0:=blk_frozen BK207.out 0
    have hfz8_1:=blk_frozen BK207.out 1
    go_wp2
    go_meet
    case rel=>exact ⟨_,(decide ((l0_1.length : Int) > 300)),(by first|rfl|(simp;done)|(simp [*];done)),H',⟨by first|omega|exact Nat.le_refl _⟩,⟨by (with_reducible repeat (first|refine blk_drewN ?_ _|refine blk_drew ?_|refine blk_alloc ?_ _));exact BK207.out⟩,⟨by repeat (first|(with_reducible first|exact HB.out|apply ba|apply bb|apply bc|refine below_set ?_ GE207.out)|exact HB.out)⟩⟩
 case rest =>
  clear HC2
  try clear c2
  try clear p2
  try clear c4
  try clear c4b0
  try clear c4b1
  try clear c6
  try clear c6b0
  try clear c6b1
  try clear hcz5_0
  try clear hcz5_1
  try clear hcz7_0
  try clear hcz7_1
  try clear hcz8_0
  try clear hcz8_1
  try clear hfz5_0
  try clear hfz5_1
  try clear hfz7_0
  try clear hfz7_1
  try clear hfz8_0
  try clear hfz8_1
  obtain ⟨kq,x21_1,rfl,HA,HJ1,BK207,HB⟩:=hcut
  cases kq with
  | zero=>exact absurd HA.out (by simp [shapesearchref24_Valid.j0])
  | succ kj1 =>
   have H:=HA.out
   clear HA
   simp only [shapesearchref24_Valid.j0] at H
   by_cases c9 : x21_1 = true
   ·
    subst c9
    have H1 : (some false) = some r:=by rw [if_pos rfl] at H;exact H
    clear H
    have H:=H1
    clear H1
    obtain rfl:=Option.some.inj H
    go_wp2
    go_ret
    exact ⟨by first|rfl|(simp [errW_none,errW_some] <;> rfl)|(simp [*,errW_none,errW_some] <;> rfl),by repeat (first|(with_reducible first|exact HB.out|apply ba|apply bb|apply bc|refine below_set ?_ GE207.out)|exact HB.out)⟩
   ·
    replace c9:=Bool.eq_false_iff.mpr c9
    subst c9
    have H1 : (shapesearchref24_Valid.l0 kj1 0 l0_0 l0_1) = some r:=by rw [if_neg (show ¬ (false = true) by decide)] at H;exact H
    clear H
    have H:=H1
    clear H1
    have H':=A_ H
    clear H
    go_wp2
    go_loopg [3] kj1 (fun kq v3 w'=>∃ (x3_2 : Int),v3 = .int .i64 x3_2∧Aside0 (shapesearchref24_Valid.l0 kq x3_2 l0_0 l0_1 = some r)∧Aside0 (kq ≤ kj1)∧Aside0 (w'.heap[gb207]? = some (.cells #[(.slice A0_0 l0_0.length c0_0),(.slice A0_1 l0_1.length c0_1)] 25 (0,0)))∧Aside0 (Below w.heap.size w w'))
    case atStart=>exact ⟨(0),(by first|rfl|(simp;done)|(simp [*];done)),H',⟨Nat.le_refl _⟩,⟨by (with_reducible repeat (first|refine blk_drewN ?_ _|refine blk_drew ?_|refine blk_alloc ?_ _));exact BK207.out⟩,⟨by repeat (first|(with_reducible first|exact HB.out|apply ba|apply bb|apply bc|refine below_set ?_ GE207.out)|exact HB.out)⟩⟩
    case round =>
     clear H'
     try clear c2
     try clear p2
     try clear c4
     try clear c4b0
     try clear c4b1
     try clear c6
     try clear c6b0
     try clear c6b1
     try clear c9
     try clear hcz5_0
     try clear hcz5_1
     try clear hcz7_0
     try clear hcz7_1
     try clear hcz8_0
     try clear hcz8_1
     try clear hfz5_0
     try clear hfz5_1
     try clear hfz7_0
     try clear hfz7_1
     try clear hfz8_0
     try clear hfz8_1
     try clear p2
     obtain ⟨x3_2,rfl,HA,HK2,BK207,HB⟩:=hrel
     cases gk with
     | zero=>exact absurd HA.out (by simp [shapesearchref24_Valid.l0])
     | succ k2 =>
      have H:=HA.out
      clear HA
      simp only [shapesearchref24_Valid.l0] at H
      by_cases c10 : x3_2 < (l0_0.length : Int)
      ·
       rw [if_pos c10] at H
       have c10b0 : decide (x3_2 < (l0_0.length : Int)) = true:=decide_eq_true c10
       clear c10
       by_cases c11 : 0 ≤ x3_2
       ·
        rw [if_pos c11] at H
        have c11b0 : decide (0 ≤ x3_2) = true:=decide_eq_true c11
        clear c11
        by_cases c12 : ((rd_L1 l0_0 x3_2).length : Int) = 64
        ·
         rw [if_pos c12] at H
         have c12b0 : (((rd_L1 l0_0 x3_2).length : Int) == 64) = true:=beq_iff_eq.mpr c12
         have c12b1 : (((rd_L1 l0_0 x3_2).length : Int) != 64) = false:=bne_eq_false_iff_eq.mpr c12
         clear c12
         have H':=A_ H
         clear H
         have hcz13_0 : wr.cell? ⟨gb207,0,none⟩ = some (.slice A0_0 l0_0.length c0_0):=(blk_cell BK207.out 0).trans rfl
         have hcz13_1 : wr.cell? ⟨gb207,1,none⟩ = some (.slice A0_1 l0_1.length c0_1):=(blk_cell BK207.out 1).trans rfl
         have hfz13_0:=blk_frozen BK207.out 0
         have hfz13_1:=blk_frozen BK207.out 1
         have p208 : 0 ≤ (x3_2 : Int):=of_decide_eq_true (by first|(with_reducible assumption)|assumption)
         have q208 : x3_2 < (l0_0.length : Int):=of_decide_eq_true (by first|(with_reducible assumption)|assumption)
         obtain ⟨ad208,A208_0,c208_0,e208,hx208_0,hl208_0,hi208_0⟩:=at_L1 HR0_0.out x3_2 p208 q208
         cases e208
         replace hx208_0:=(HB.out.cell (World.block_lt_of_cell? w _ hx208_0)).trans hx208_0
         have HR208_0:=A_ hi208_0
         have HC208_0:=A_ hl208_0
         clear hi208_0 hl208_0
         replace p208:=eq_true p208
         replace q208:=eq_true q208
         go_wp2
         go_roundg k2
         case measure=>have:=HJ1.out;have:=HK2.out;omega
         case rel=>exact ⟨(wrap64 (x3_2 + 1)),(by first|rfl|(simp;done)|(simp [*];done)),H',⟨by have:=HJ1.out;have:=HK2.out;omega⟩,⟨by (with_reducible repeat (first|refine blk_drewN ?_ _|refine blk_drew ?_|refine blk_alloc ?_ _));exact BK207.out⟩,⟨by repeat (first|(with_reducible first|exact HB.out|apply ba|apply bb|apply bc|refine below_set ?_ GE207.out)|exact HB.out)⟩⟩
        ·
         rw [if_neg c12] at H
         have c12b0 : (((rd_L1 l0_0 x3_2).length : Int) == 64) = false:=beq_eq_false_iff_ne.mpr c12
         have c12b1 : (((rd_L1 l0_0 x3_2).length : Int) != 64) = true:=bne_iff_ne.mpr c12
         obtain rfl:=Option.some.inj H
         have hcz14_0 : wr.cell? ⟨gb207,0,none⟩ = some (.slice A0_0 l0_0.length c0_0):=(blk_cell BK207.out 0).trans rfl
         have hcz14_1 : wr.cell? ⟨gb207,1,none⟩ = some (.slice A0_1 l0_1.length c0_1):=(blk_cell BK207.out 1).trans rfl
         have hfz14_0:=blk_frozen BK207.out 0
         have hfz14_1:=blk_frozen BK207.out 1
         have p208 : 0 ≤ (x3_2 : Int):=of_decide_eq_true (by first|(with_reducible assumption)|assumption)
         have q208 : x3_2 < (l0_0.length : Int):=of_decide_eq_true (by first|(with_reducible assumption)|assumption)
         obtain ⟨ad208,A208_0,c208_0,e208,hx208_0,hl208_0,hi208_0⟩:=at_L1 HR0_0.out x3_2 p208 q208
         cases e208
         replace hx208_0:=(HB.out.cell (World.block_lt_of_cell? w _ hx208_0)).trans hx208_0
         have HR208_0:=A_ hi208_0
         have HC208_0:=A_ hl208_0
         clear hi208_0 hl208_0
         replace p208:=eq_true p208
         replace q208:=eq_true q208
         go_wp2
         go_ret
         exact ⟨by first|rfl|(simp [errW_none,errW_some] <;> rfl)|(simp [*,errW_none,errW_some] <;> rfl),by repeat (first|(with_reducible first|exact HB.out|apply ba|apply bb|apply bc|refine below_set ?_ GE207.out)|exact HB.out)⟩
       ·
        rw [if_neg c11] at H
        exact absurd H (by simp)
      ·
       rw [if_neg c10] at H
       have c10b0 : decide (x3_2 < (l0_0.length : Int)) = false:=decide_eq_false c10
       clear c10
       have H':=A_ H
       clear H
       have hcz15_0 : wr.cell? ⟨gb207,0,none⟩ = some (.slice A0_0 l0_0.length c0_0):=(blk_cell BK207.out 0).trans rfl
       have hcz15_1 : wr.cell? ⟨gb207,1,none⟩ = some (.slice A0_1 l0_1.length c0_1):=(blk_cell BK207.out 1).trans rfl
       have hfz15_0:=blk_frozen BK207.out 0
       have hfz15_1:=blk_frozen BK207.out 1
       go_wp2
       go_loopg [4] k2 (fun kq v4 w'=>∃ (x4_3 : Int),v4 = .int .i64 x4_3∧Aside0 (shapesearchref24_Valid.l1 kq x4_3 l0_0 l0_1 = some r)∧Aside0 (kq ≤ k2)∧Aside0 (w'.heap[gb207]? = some (.cells #[(.slice A0_0 l0_0.length c0_0),(.slice A0_1 l0_1.length c0_1)] 25 (0,0)))∧Aside0 (Below w.heap.size w w'))
       case atStart=>exact ⟨(0),(by first|rfl|(simp;done)|(simp [*];done)),H',⟨Nat.le_refl _⟩,⟨by (with_reducible repeat (first|refine blk_drewN ?_ _|refine blk_drew ?_|refine blk_alloc ?_ _));exact BK207.out⟩,⟨by repeat (first|(with_reducible first|exact HB.out|apply ba|apply bb|apply bc|refine below_set ?_ GE207.out)|exact HB.out)⟩⟩
       case round =>
        clear H'
        try clear c1
        try clear c2
        try clear p2
        try clear q2
        try clear hx2
        try clear c4
        try clear c4b0
        try clear c4b1
        try clear c6
        try clear c6b0
        try clear c6b1
        try clear p6
        try clear c9
        try clear c10
        try clear c10b0
        try clear c11
        try clear c11b0
        try clear c12
        try clear c12b0
        try clear c12b1
        try clear hcz13_0
        try clear hcz13_1
        try clear hcz14_0
        try clear hcz14_1
        try clear hcz15_0
        try clear hcz15_1
        try clear hcz5_0
        try clear hcz5_1
        try clear hcz7_0
        try clear hcz7_1
        try clear hcz8_0
        try clear hcz8_1
        try clear hfz13_0
        try clear hfz13_1
        try clear hfz14_0
        try clear hfz14_1
        try clear hfz15_0
        try clear hfz15_1
        try clear hfz5_0
        try clear hfz5_1
        try clear hfz7_0
        try clear hfz7_1
        try clear hfz8_0
        try clear hfz8_1
        try clear hx208_0
        try clear p2
        try clear p208
        try clear q208
        obtain ⟨x4_3,rfl,HA,HK3,BK207,HB⟩:=hrel
        cases gk with
        | zero=>exact absurd HA.out (by simp [shapesearchref24_Valid.l1])
        | succ k3 =>
         have H:=HA.out
         clear HA
         simp only [shapesearchref24_Valid.l1] at H
         by_cases c16 : x4_3 < (l0_1.length : Int)
         ·
          rw [if_pos c16] at H
          have c16b0 : decide (x4_3 < (l0_1.length : Int)) = true:=decide_eq_true c16
          clear c16
          by_cases c17 : 0 ≤ x4_3
          ·
           rw [if_pos c17] at H
           have c17b0 : decide (0 ≤ x4_3) = true:=decide_eq_true c17
           clear c17
           by_cases c18 : ((rd_T42 l0_1 x4_3).f0) < 0
           ·
            rw [if_pos c18] at H
            have c18b0 : decide (((rd_T42 l0_1 x4_3).f0) < 0) = true:=decide_eq_true c18
            clear c18
            obtain rfl:=Option.some.inj H
            have hcz19_0 : wr.cell? ⟨gb207,0,none⟩ = some (.slice A0_0 l0_0.length c0_0):=(blk_cell BK207.out 0).trans rfl
            have hcz19_1 : wr.cell? ⟨gb207,1,none⟩ = some (.slice A0_1 l0_1.length c0_1):=(blk_cell BK207.out 1).trans rfl
            have hfz19_0:=blk_frozen BK207.out 0
            have hfz19_1:=blk_frozen BK207.out 1
            have p209 : 0 ≤ (x4_3 : Int):=of_decide_eq_true (by first|(with_reducible assumption)|assumption)
            have q209 : x4_3 < (l0_1.length : Int):=of_decide_eq_true (by first|(with_reducible assumption)|assumption)
            obtain ⟨ad209,A209_1,c209_1,e209,hx209_0,hx209_1,hl209_1,hi209_1⟩:=at_T42 HR0_1.out x4_3 p209 q209
            cases e209
            replace hx209_0:=(HB.out.cell (World.block_lt_of_cell? w _ hx209_0)).trans hx209_0
            replace hx209_1:=(HB.out.cell (World.block_lt_of_cell? w _ hx209_1)).trans hx209_1
            have HR209_1:=A_ hi209_1
            have HC209_1:=A_ hl209_1
            clear hi209_1 hl209_1
            replace p209:=eq_true p209
            replace q209:=eq_true q209
            go_wp2_with (first|((with_reducible refine gate_dst (N:=5) rfl ?_);(try (refine gate_guard (by rfl) ?_;dsimp only));refine box_event ?hg (N:=5) ?hd (cs:=#[.int .i64 0,.slice none 0 0]) (t:=42) ?hr ?_;(case hd=>rfl);(case hg=>rfl);(case hr=>first|(go_simp;done)|(go_simp;rfl));intro gb210 hg w20 hbox hb;have n0_:=A_ (blk_below (g:=gb207) (o:=.cells #[.slice A0_0 l0_0.length c0_0,.slice (some ad209) l0_1.length c0_1] 25 (0,0)) (by (with_reducible repeat (first|refine blk_drewN ?_ _|refine blk_drew ?_|refine blk_alloc ?_ _));exact BK207.out) hb);have n1_:=A_ (below_step (by repeat (first|(with_reducible first|exact HB.out|apply ba|apply bb|apply bc|refine below_set ?_ GE207.out)|exact HB.out)) hb);have n2_:=A_ (hbox);have n3_:=A_ ((by rw [hg];exact (below_size (by repeat (first|(with_reducible first|exact HB.out|apply ba|apply bb|apply bc|refine below_set ?_ GE207.out)|exact HB.out))) : w.heap.size ≤ gb210));have n4_:=A_ ((by rw [hg];exact (below_size (by repeat (first|(with_reducible first|exact HB.out|apply ba|apply bb|apply bc|refine below_set ?_ GE207.out)|exact HB.out))) : w.heap.size ≤ gb210));have n5_:=A_ ((by rw [hg];exact Nat.ne_of_lt (blk_lt (g:=gb207) (o:=.cells #[.slice A0_0 l0_0.length c0_0,.slice (some ad209) l0_1.length c0_1] 25 (0,0)) (by (with_reducible repeat (first|refine blk_drewN ?_ _|refine blk_drew ?_|refine blk_alloc ?_ _));exact BK207.out)) : gb207≠gb210));have n6_:=A_ ((by rw [hg];exact Nat.ne_of_gt (blk_lt (g:=gb207) (o:=.cells #[.slice A0_0 l0_0.length c0_0,.slice (some ad209) l0_1.length c0_1] 25 (0,0)) (by (with_reducible repeat (first|refine blk_drewN ?_ _|refine blk_drew ?_|refine blk_alloc ?_ _));exact BK207.out)) : gb210≠gb207));clear BK207;clear HB;have BK207:=n0_;have HB:=n1_;have BK210:=n2_;have GW210:=n3_;have GE210:=n4_;have NB207_210:=n5_;have NB210_207:=n6_;clear n0_ n1_ n2_ n3_ n4_ n5_ n6_;clear hb hbox hg;have hnb21:=NB210_207.out;have hnc21:=NB207_210.out;have hcz22_0 : w20.cell? ⟨gb210,0,none⟩ = some (.int .i64 0):=(blk_cell BK210.out 0).trans rfl;have hcz22_1 : w20.cell? ⟨gb210,1,none⟩ = some (.slice none 0 0):=(blk_cell BK210.out 1).trans rfl;have hfz22_0:=blk_frozen BK210.out 0;have hfz22_1:=blk_frozen BK210.out 1))
            go_ret
            exact ⟨by first|rfl|(simp [errW_none,errW_some] <;> rfl)|(simp [*,errW_none,errW_some] <;> rfl),by repeat (first|(with_reducible first|exact HB.out|apply ba|apply bb|apply bc|refine below_set ?_ GE207.out|refine below_set ?_ GE210.out)|exact HB.out)⟩
           ·
            rw [if_neg c18] at H
            have c18b0 : decide (((rd_T42 l0_1 x4_3).f0) < 0) = false:=decide_eq_false c18
            clear c18
            by_cases c23 : ((rd_T42 l0_1 x4_3).f0) ≥ (l0_0.length : Int)
            ·
             rw [if_pos c23] at H
             have c23b0 : decide ((l0_0.length : Int) ≤ ((rd_T42 l0_1 x4_3).f0)) = true:=decide_eq_true c23
             clear c23
             obtain rfl:=Option.some.inj H
             have hcz24_0 : wr.cell? ⟨gb207,0,none⟩ = some (.slice A0_0 l0_0.length c0_0):=(blk_cell BK207.out 0).trans rfl
             have hcz24_1 : wr.cell? ⟨gb207,1,none⟩ = some (.slice A0_1 l0_1.length c0_1):=(blk_cell BK207.out 1).trans rfl
             have hfz24_0:=blk_frozen BK207.out 0
             have hfz24_1:=blk_frozen BK207.out 1
             have p209 : 0 ≤ (x4_3 : Int):=of_decide_eq_true (by first|(with_reducible assumption)|assumption)
             have q209 : x4_3 < (l0_1.length : Int):=of_decide_eq_true (by first|(with_reducible assumption)|assumption)
             obtain ⟨ad209,A209_1,c209_1,e209,hx209_0,hx209_1,hl209_1,hi209_1⟩:=at_T42 HR0_1.out x4_3 p209 q209
             cases e209
             replace hx209_0:=(HB.out.cell (World.block_lt_of_cell? w _ hx209_0)).trans hx209_0
             replace hx209_1:=(HB.out.cell (World.block_lt_of_cell? w _ hx209_1)).trans hx209_1
             have HR209_1:=A_ hi209_1
             have HC209_1:=A_ hl209_1
             clear hi209_1 hl209_1
             replace p209:=eq_true p209
             replace q209:=eq_true q209
             go_wp2_with (first|((with_reducible refine gate_dst (N:=5) rfl ?_);(try (refine gate_guard (by rfl) ?_;dsimp only));refine box_event ?hg (N:=5) ?hd (cs:=#[.int .i64 0,.slice none 0 0]) (t:=42) ?hr ?_;(case hd=>rfl);(case hg=>rfl);(case hr=>first|(go_simp;done)|(go_simp;rfl));intro gb210 hg w25 hbox hb;have n0_:=A_ (blk_below (g:=gb207) (o:=.cells #[.slice A0_0 l0_0.length c0_0,.slice (some ad209) l0_1.length c0_1] 25 (0,0)) (by (with_reducible repeat (first|refine blk_drewN ?_ _|refine blk_drew ?_|refine blk_alloc ?_ _));exact BK207.out) hb);have n1_:=A_ (below_step (by repeat (first|(with_reducible first|exact HB.out|apply ba|apply bb|apply bc|refine below_set ?_ GE207.out)|exact HB.out)) hb);have n2_:=A_ (hbox);have n3_:=A_ ((by rw [hg];exact (below_size (by repeat (first|(with_reducible first|exact HB.out|apply ba|apply bb|apply bc|refine below_set ?_ GE207.out)|exact HB.out))) : w.heap.size ≤ gb210));have n4_:=A_ ((by rw [hg];exact (below_size (by repeat (first|(with_reducible first|exact HB.out|apply ba|apply bb|apply bc|refine below_set ?_ GE207.out)|exact HB.out))) : w.heap.size ≤ gb210));have n5_:=A_ ((by rw [hg];exact Nat.ne_of_lt (blk_lt (g:=gb207) (o:=.cells #[.slice A0_0 l0_0.length c0_0,.slice (some ad209) l0_1.length c0_1] 25 (0,0)) (by (with_reducible repeat (first|refine blk_drewN ?_ _|refine blk_drew ?_|refine blk_alloc ?_ _));exact BK207.out)) : gb207≠gb210));have n6_:=A_ ((by rw [hg];exact Nat.ne_of_gt (blk_lt (g:=gb207) (o:=.cells #[.slice A0_0 l0_0.length c0_0,.slice (some ad209) l0_1.length c0_1] 25 (0,0)) (by (with_reducible repeat (first|refine blk_drewN ?_ _|refine blk_drew ?_|refine blk_alloc ?_ _));exact BK207.out)) : gb210≠gb207));clear BK207;clear HB;have BK207:=n0_;have HB:=n1_;have BK210:=n2_;have GW210:=n3_;have GE210:=n4_;have NB207_210:=n5_;have NB210_207:=n6_;clear n0_ n1_ n2_ n3_ n4_ n5_ n6_;clear hb hbox hg;have hnb26:=NB210_207.out;have hnc26:=NB207_210.out;have hcz27_0 : w25.cell? ⟨gb210,0,none⟩ = some (.int .i64 0):=(blk_cell BK210.out 0).trans rfl;have hcz27_1 : w25.cell? ⟨gb210,1,none⟩ = some (.slice none 0 0):=(blk_cell BK210.out 1).trans rfl;have hfz27_0:=blk_frozen BK210.out 0;have hfz27_1:=blk_frozen BK210.out 1;have hcz28_0 : w25.cell? ⟨gb207,0,none⟩ = some (.slice A0_0 l0_0.length c0_0):=(blk_cell BK207.out 0).trans rfl;have hcz28_1 : w25.cell? ⟨gb207,1,none⟩ = some (.slice (some ad209) l0_1.length c0_1):=(blk_cell BK207.out 1).trans rfl;have hfz28_0:=blk_frozen BK207.out 0;have hfz28_1:=blk_frozen BK207.out 1))
             go_ret
             exact ⟨by first|rfl|(simp [errW_none,errW_some] <;> rfl)|(simp [*,errW_none,errW_some] <;> rfl),by repeat (first|(with_reducible first|exact HB.out|apply ba|apply bb|apply bc|refine below_set ?_ GE207.out|refine below_set ?_ GE210.out)|exact HB.out)⟩
            ·
             rw [if_neg c23] at H
             have c23b0 : decide ((l0_0.length : Int) ≤ ((rd_T42 l0_1 x4_3).f0)) = false:=decide_eq_false c23
             clear c23
             by_cases c29 : (((rd_T42 l0_1 x4_3).f1).length : Int) = 64
             ·
              rw [if_pos c29] at H
              have c29b0 : ((((rd_T42 l0_1 x4_3).f1).length : Int) == 64) = true:=beq_iff_eq.mpr c29
              have c29b1 : ((((rd_T42 l0_1 x4_3).f1).length : Int) != 64) = false:=bne_eq_false_iff_eq.mpr c29
              clear c29
              have H':=A_ H
              clear H
              have hcz30_0 : wr.cell? ⟨gb207,0,none⟩ = some (.slice A0_0 l0_0.length c0_0):=(blk_cell BK207.out 0).trans rfl
              have hcz30_1 : wr.cell? ⟨gb207,1,none⟩ = some (.slice A0_1 l0_1.length c0_1):=(blk_cell BK207.out 1).trans rfl
              have hfz30_0:=blk_frozen BK207.out 0
              have hfz30_1:=blk_frozen BK207.out 1
              have p209 : 0 ≤ (x4_3 : Int):=of_decide_eq_true (by first|(with_reducible assumption)|assumption)
              have q209 : x4_3 < (l0_1.length : Int):=of_decide_eq_true (by first|(with_reducible assumption)|assumption)
              obtain ⟨ad209,A209_1,c209_1,e209,hx209_0,hx209_1,hl209_1,hi209_1⟩:=at_T42 HR0_1.out x4_3 p209 q209
              cases e209
              replace hx209_0:=(HB.out.cell (World.block_lt_of_cell? w _ hx209_0)).trans hx209_0
              replace hx209_1:=(HB.out.cell (World.block_lt_of_cell? w _ hx209_1)).trans hx209_1
              have HR209_1:=A_ hi209_1
              have HC209_1:=A_ hl209_1
              clear hi209_1 hl209_1
              replace p209:=eq_true p209
              replace q209:=eq_true q209
              go_wp2_with (first|((with_reducible refine gate_dst (N:=5) rfl ?_);(try (refine gate_guard (by rfl) ?_;dsimp only));refine box_event ?hg (N:=5) ?hd (cs:=#[.int .i64 0,.slice none 0 0]) (t:=42) ?hr ?_;(case hd=>rfl);(case hg=>rfl);(case hr=>first|(go_simp;done)|(go_simp;rfl));intro gb210 hg w31 hbox hb;have n0_:=A_ (blk_below (g:=gb207) (o:=.cells #[.slice A0_0 l0_0.length c0_0,.slice (some ad209) l0_1.length c0_1] 25 (0,0)) (by (with_reducible repeat (first|refine blk_drewN ?_ _|refine blk_drew ?_|refine blk_alloc ?_ _));exact BK207.out) hb);have n1_:=A_ (below_step (by repeat (first|(with_reducible first|exact HB.out|apply ba|apply bb|apply bc|refine below_set ?_ GE207.out)|exact HB.out)) hb);have n2_:=A_ (hbox);have n3_:=A_ ((by rw [hg];exact (below_size (by repeat (first|(with_reducible first|exact HB.out|apply ba|apply bb|apply bc|refine below_set ?_ GE207.out)|exact HB.out))) : w.heap.size ≤ gb210));have n4_:=A_ ((by rw [hg];exact (below_size (by repeat (first|(with_reducible first|exact HB.out|apply ba|apply bb|apply bc|refine below_set ?_ GE207.out)|exact HB.out))) : w.heap.size ≤ gb210));have n5_:=A_ ((by rw [hg];exact Nat.ne_of_lt (blk_lt (g:=gb207) (o:=.cells #[.slice A0_0 l0_0.length c0_0,.slice (some ad209) l0_1.length c0_1] 25 (0,0)) (by (with_reducible repeat (first|refine blk_drewN ?_ _|refine blk_drew ?_|refine blk_alloc ?_ _));exact BK207.out)) : gb207≠gb210));have n6_:=A_ ((by rw [hg];exact Nat.ne_of_gt (blk_lt (g:=gb207) (o:=.cells #[.slice A0_0 l0_0.length c0_0,.slice (some ad209) l0_1.length c0_1] 25 (0,0)) (by (with_reducible repeat (first|refine blk_drewN ?_ _|refine blk_drew ?_|refine blk_alloc ?_ _));exact BK207.out)) : gb210≠gb207));clear BK207;clear HB;have BK207:=n0_;have HB:=n1_;have BK210:=n2_;have GW210:=n3_;have GE210:=n4_;have NB207_210:=n5_;have NB210_207:=n6_;clear n0_ n1_ n2_ n3_ n4_ n5_ n6_;clear hb hbox hg;have hnb32:=NB210_207.out;have hnc32:=NB207_210.out;have hcz33_0 : w31.cell? ⟨gb210,0,none⟩ = some (.int .i64 0):=(blk_cell BK210.out 0).trans rfl;have hcz33_1 : w31.cell? ⟨gb210,1,none⟩ = some (.slice none 0 0):=(blk_cell BK210.out 1).trans rfl;have hfz33_0:=blk_frozen BK210.out 0;have hfz33_1:=blk_frozen BK210.out 1;have hcz34_0 : w31.cell? ⟨gb207,0,none⟩ = some (.slice A0_0 l0_0.length c0_0):=(blk_cell BK207.out 0).trans rfl;have hcz34_1 : w31.cell? ⟨gb207,1,none⟩ = some (.slice (some ad209) l0_1.length c0_1):=(blk_cell BK207.out 1).trans rfl;have hfz34_0:=blk_frozen BK207.out 0;have hfz34_1:=blk_frozen BK207.out 1))
              go_roundg k3
              case measure=>have:=HJ1.out;have:=HK2.out;have:=HK3.out;omega
              case rel=>exact ⟨(wrap64 (x4_3 + 1)),(by first|rfl|(simp;done)|(simp [*];done)),H',⟨by have:=HJ1.out;have:=HK2.out;have:=HK3.out;omega⟩,⟨by (with_reducible repeat (first|refine blk_drewN ?_ _|refine blk_drew ?_|refine blk_alloc ?_ _));refine blk_far ?_ NB207_210.out _;(with_reducible repeat (first|refine blk_drewN ?_ _|refine blk_drew ?_|refine blk_alloc ?_ _));refine blk_far ?_ NB207_210.out _;(with_reducible repeat (first|refine blk_drewN ?_ _|refine blk_drew ?_|refine blk_alloc ?_ _));exact BK207.out⟩,⟨by repeat (first|(with_reducible first|exact HB.out|apply ba|apply bb|apply bc|refine below_set ?_ GE207.out|refine below_set ?_ GE210.out)|exact HB.out)⟩⟩
             ·
              rw [if_neg c29] at H
              have c29b0 : ((((rd_T42 l0_1 x4_3).f1).length : Int) == 64) = false:=beq_eq_false_iff_ne.mpr c29
              have c29b1 : ((((rd_T42 l0_1 x4_3).f1).length : Int) != 64) = true:=bne_iff_ne.mpr c29
              obtain rfl:=Option.some.inj H
              have hcz35_0 : wr.cell? ⟨gb207,0,none⟩ = some (.slice A0_0 l0_0.length c0_0):=(blk_cell BK207.out 0).trans rfl
              have hcz35_1 : wr.cell? ⟨gb207,1,none⟩ = some (.slice A0_1 l0_1.length c0_1):=(blk_cell BK207.out 1).trans rfl
              have hfz35_0:=blk_frozen BK207.out 0
              have hfz35_1:=blk_frozen BK207.out 1
              have p209 : 0 ≤ (x4_3 : Int):=of_decide_eq_true (by first|(with_reducible assumption)|assumption)
              have q209 : x4_3 < (l0_1.length : Int):=of_decide_eq_true (by first|(with_reducible assumption)|assumption)
              obtain ⟨ad209,A209_1,c209_1,e209,hx209_0,hx209_1,hl209_1,hi209_1⟩:=at_T42 HR0_1.out x4_3 p209 q209
              cases e209
              replace hx209_0:=(HB.out.cell (World.block_lt_of_cell? w _ hx209_0)).trans hx209_0
              replace hx209_1:=(HB.out.cell (World.block_lt_of_cell? w _ hx209_1)).trans hx209_1
              have HR209_1:=A_ hi209_1
              have HC209_1:=A_ hl209_1
              clear hi209_1 hl209_1
              replace p209:=eq_true p209
              replace q209:=eq_true q209
              go_wp2_with (first|((with_reducible refine gate_dst (N:=5) rfl ?_);(try (refine gate_guard (by rfl) ?_;dsimp only));refine box_event ?hg (N:=5) ?hd (cs:=#[.int .i64 0,.slice none 0 0]) (t:=42) ?hr ?_;(case hd=>rfl);(case hg=>rfl);(case hr=>first|(go_simp;done)|(go_simp;rfl));intro gb210 hg w36 hbox hb;have n0_:=A_ (blk_below (g:=gb207) (o:=.cells #[.slice A0_0 l0_0.length c0_0,.slice (some ad209) l0_1.length c0_1] 25 (0,0)) (by (with_reducible repeat (first|refine blk_drewN ?_ _|refine blk_drew ?_|refine blk_alloc ?_ _));exact BK207.out) hb);have n1_:=A_ (below_step (by repeat (first|(with_reducible first|exact HB.out|apply ba|apply bb|apply bc|refine below_set ?_ GE207.out)|exact HB.out)) hb);have n2_:=A_ (hbox);have n3_:=A_ ((by rw [hg];exact (below_size (by repeat (first|(with_reducible first|exact HB.out|apply ba|apply bb|apply bc|refine below_set ?_ GE207.out)|exact HB.out))) : w.heap.size ≤ gb210));have n4_:=A_ ((by rw [hg];exact (below_size (by repeat (first|(with_reducible first|exact HB.out|apply ba|apply bb|apply bc|refine below_set ?_ GE207.out)|exact HB.out))) : w.heap.size ≤ gb210));have n5_:=A_ ((by rw [hg];exact Nat.ne_of_lt (blk_lt (g:=gb207) (o:=.cells #[.slice A0_0 l0_0.length c0_0,.slice (some ad209) l0_1.length c0_1] 25 (0,0)) (by (with_reducible repeat (first|refine blk_drewN ?_ _|refine blk_drew ?_|refine blk_alloc ?_ _));exact BK207.out)) : gb207≠gb210));have n6_:=A_ ((by rw [hg];exact Nat.ne_of_gt (blk_lt (g:=gb207) (o:=.cells #[.slice A0_0 l0_0.length c0_0,.slice (some ad209) l0_1.length c0_1] 25 (0,0)) (by (with_reducible repeat (first|refine blk_drewN ?_ _|refine blk_drew ?_|refine blk_alloc ?_ _));exact BK207.out)) : gb210≠gb207));clear BK207;clear HB;have BK207:=n0_;have HB:=n1_;have BK210:=n2_;have GW210:=n3_;have GE210:=n4_;have NB207_210:=n5_;have NB210_207:=n6_;clear n0_ n1_ n2_ n3_ n4_ n5_ n6_;clear hb hbox hg;have hnb37:=NB210_207.out;have hnc37:=NB207_210.out;have hcz38_0 : w36.cell? ⟨gb210,0,none⟩ = some (.int .i64 0):=(blk_cell BK210.out 0).trans rfl;have hcz38_1 : w36.cell? ⟨gb210,1,none⟩ = some (.slice none 0 0):=(blk_cell BK210.out 1).trans rfl;have hfz38_0:=blk_frozen BK210.out 0;have hfz38_1:=blk_frozen BK210.out 1;have hcz39_0 : w36.cell? ⟨gb207,0,none⟩ = some (.slice A0_0 l0_0.length c0_0):=(blk_cell BK207.out 0).trans rfl;have hcz39_1 : w36.cell? ⟨gb207,1,none⟩ = some (.slice (some ad209) l0_1.length c0_1):=(blk_cell BK207.out 1).trans rfl;have hfz39_0:=blk_frozen BK207.out 0;have hfz39_1:=blk_frozen BK207.out 1))
              go_ret
              exact ⟨by first|rfl|(simp [errW_none,errW_some] <;> rfl)|(simp [*,errW_none,errW_some] <;> rfl),by repeat (first|(with_reducible first|exact HB.out|apply ba|apply bb|apply bc|refine below_set ?_ GE207.out|refine below_set ?_ GE210.out)|exact HB.out)⟩
          ·
           rw [if_neg c17] at H
           exact absurd H (by simp)
         ·
          rw [if_neg c16] at H
          have c16b0 : decide (x4_3 < (l0_1.length : Int)) = false:=decide_eq_false c16
          clear c16
          obtain rfl:=Option.some.inj H
          have hcz40_0 : wr.cell? ⟨gb207,0,none⟩ = some (.slice A0_0 l0_0.length c0_0):=(blk_cell BK207.out 0).trans rfl
          have hcz40_1 : wr.cell? ⟨gb207,1,none⟩ = some (.slice A0_1 l0_1.length c0_1):=(blk_cell BK207.out 1).trans rfl
          have hfz40_0:=blk_frozen BK207.out 0
          have hfz40_1:=blk_frozen BK207.out 1
          go_wp2
          go_ret
          exact ⟨by first|rfl|(simp [errW_none,errW_some] <;> rfl)|(simp [*,errW_none,errW_some] <;> rfl),by repeat (first|(with_reducible first|exact HB.out|apply ba|apply bb|apply bc|refine below_set ?_ GE207.out)|exact HB.out)⟩

end Go.Proofs.Ythpiafbloebpjaa.PDeviceSteps
