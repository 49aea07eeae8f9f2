/- This file proves, function by function, what the Go functions that one law uses compute; most of it was printed by a program (wip/tools of this session, over the kit's print). -/
import Derived.Test.YthpiafbloebpjaaPDeviceStepsx0
import Derived.Test.YthpiafbloebpjaaPDeviceStepsx1
import Derived.Test.YthpiafbloebpjaaPDeviceStepsx2
namespace Go.Proofs.Ythpiafbloebpjaa.PDeviceSteps
open Go.RowKit Go.Proofs.YthpiafbloebpjaaW.PrintWords Go.Proofs.YthpiafbloebpjaaW.PrintLast Go.Proofs.YthpiafbloebpjaaW.PrintMore
attribute [local go_sem] max2_int min2_int max_two min_two max_three min_three max_four min_four   -- for this text's walks alone
set_option linter.unusedVariables false
set_option linter.unusedSimpArgs false

/-! ### device_Valid: function 19 -/
mutual
def device_Valid.j0 : Nat → Bool → List (List Int) → List (S42) → Option (Bool)
 | 0,_,_,_=>none
 | k + 1,x22,x128000,x128001=>if x22 = true then (some false) else (device_Valid.l0 k x128000 (x128000.length : Int) 0 x128000 x128001)
def device_Valid.l0 : Nat → List (List Int) → Int → Int → List (List Int) → List (S42) → Option (Bool)
 | 0,_,_,_,_,_=>none
 | k + 1,x24,x25,x26,x128000,x128001=>if x26 < x25 then (if 0 ≤ x26 then (if x26 < (x24.length : Int) then (if ((rd_L1 x24 x26).length : Int) = 64 then (device_Valid.l0 k x24 x25 (wrap64 (x26 + 1)) x128000 x128001) else (some false)) else (none)) else (none)) else (device_Valid.l1 k x128001 (x128001.length : Int) 0 x128000 x128001)
def device_Valid.l1 : Nat → List (S42) → Int → Int → List (List Int) → List (S42) → Option (Bool)
 | 0,_,_,_,_,_=>none
 | k + 1,x35,x36,x37,x128000,x128001=>if x37 < x36 then (if 0 ≤ x37 then (if x37 < (x35.length : Int) then (if ((rd_T42 x35 x37).f0) < 0 then (some false) else (if ((rd_T42 x35 x37).f0) ≥ (x128000.length : Int) then (some false) else (if (((rd_T42 x35 x37).f1).length : Int) = 64 then (device_Valid.l1 k x35 x36 (wrap64 (x37 + 1)) x128000 x128001) else (some false)))) else (none)) else (none)) else (some true)
end
def device_Valid.f (k : Nat) (l0_0 : List (List Int)) (l0_1 : List (S42)) : Option (Bool):=if (l0_0.length : Int) < 1 then (device_Valid.j0 k true l0_0 l0_1) else (if (l0_0.length : Int) > 256 then (device_Valid.j0 k true l0_0 l0_1) else (device_Valid.j0 k (decide ((l0_1.length : Int) > 300)) l0_0 l0_1))
theorem device_Valid.mono_l : ∀ k,(∀ y0 y1 y2,LeO (device_Valid.j0 k y0 y1 y2) (device_Valid.j0 (k + 1) y0 y1 y2))∧(∀ y0 y1 y2 y3 y4,LeO (device_Valid.l0 k y0 y1 y2 y3 y4) (device_Valid.l0 (k + 1) y0 y1 y2 y3 y4))∧(∀ y0 y1 y2 y3 y4,LeO (device_Valid.l1 k y0 y1 y2 y3 y4) (device_Valid.l1 (k + 1) y0 y1 y2 y3 y4))
 | 0=>⟨fun _ _ _ r h=>by simp [device_Valid.j0] at h,fun _ _ _ _ _ r h=>by simp [device_Valid.l0] at h,fun _ _ _ _ _ r h=>by simp [device_Valid.l1] at h⟩
 | k + 1=>by
  obtain ⟨ih0,ih1,ih2⟩:=device_Valid.mono_l k
  refine ⟨?_,?_,?_⟩
  ·
   intro y0 y1 y2
   unfold device_Valid.j0
   repeat' first
   | (with_reducible exact ih0 _ _ _)
   | (with_reducible exact ih1 _ _ _ _ _)
   | (with_reducible exact ih2 _ _ _ _ _)
   | (with_reducible exact LeO.refl _)
   | (with_reducible exact LeO.none _)
   | (with_reducible refine LeO.ite ?_ ?_)
   | (with_reducible refine LeO.bind ?_ (fun _=>?_))
   | exact ih0 _ _ _
   | exact ih1 _ _ _ _ _
   | exact ih2 _ _ _ _ _
   | exact LeO.none _
   | refine LeO.ite ?_ ?_
   | refine LeO.bind ?_ (fun _=>?_)
  ·
   intro y0 y1 y2 y3 y4
   unfold device_Valid.l0
   repeat' first
   | (with_reducible exact ih0 _ _ _)
   | (with_reducible exact ih1 _ _ _ _ _)
   | (with_reducible exact ih2 _ _ _ _ _)
   | (with_reducible exact LeO.refl _)
   | (with_reducible exact LeO.none _)
   | (with_reducible refine LeO.ite ?_ ?_)
   | (with_reducible refine LeO.bind ?_ (fun _=>?_))
   | exact ih0 _ _ _
   | exact ih1 _ _ _ _ _
   | exact ih2 _ _ _ _ _
   | exact LeO.none _
   | refine LeO.ite ?_ ?_
   | refine LeO.bind ?_ (fun _=>?_)
  ·
   intro y0 y1 y2 y3 y4
   unfold device_Valid.l1
   repeat' first
   | (with_reducible exact ih0 _ _ _)
   | (with_reducible exact ih1 _ _ _ _ _)
   | (with_reducible exact ih2 _ _ _ _ _)
   | (with_reducible exact LeO.refl _)
   | (with_reducible exact LeO.none _)
   | (with_reducible refine LeO.ite ?_ ?_)
   | (with_reducible refine LeO.bind ?_ (fun _=>?_))
   | exact ih0 _ _ _
   | exact ih1 _ _ _ _ _
   | exact ih2 _ _ _ _ _
   | exact LeO.none _
   | refine LeO.ite ?_ ?_
   | refine LeO.bind ?_ (fun _=>?_)
theorem device_Valid.mono : ∀ a0 a1 k,LeO (device_Valid.f k a0 a1) (device_Valid.f (k + 1) a0 a1):=by
 intro a0 a1 k
 obtain ⟨ih0,ih1,ih2⟩:=device_Valid.mono_l k
 unfold device_Valid.f
 repeat' first
   | (with_reducible exact ih0 _ _ _)
   | (with_reducible exact ih1 _ _ _ _ _)
   | (with_reducible exact ih2 _ _ _ _ _)
   | (with_reducible exact LeO.refl _)
   | (with_reducible exact LeO.none _)
   | (with_reducible refine LeO.ite ?_ ?_)
   | (with_reducible refine LeO.bind ?_ (fun _=>?_))
   | exact ih0 _ _ _
   | exact ih1 _ _ _ _ _
   | exact ih2 _ _ _ _ _
   | exact LeO.none _
   | refine LeO.ite ?_ ?_
   | refine LeO.bind ?_ (fun _=>?_)
set_option maxHeartbeats 8000000 in
set_option maxRecDepth 100000 in
theorem device_Valid.calls (k : Nat) (A0_0 : Option Addr) (c0_0 : Nat) (l0_0 : List (List Int)) (A0_1 : Option Addr) (c0_1 : Nat) (l0_1 : List (S42)) (r : Bool) (w : World) (hr0_0 : Kd.C (Kd.slice 5 (Kd.int .u8)) w A0_0 l0_0.length l0_0) (hc0_0 : l0_0.length ≤ c0_0) (hr0_1 : Kd.C k42 w A0_1 l0_1.length l0_1) (hc0_1 : l0_1.length ≤ c0_1) (h : device_Valid.f k l0_0 l0_1 = some r) :
  Calls Try.prog 19 #[.agg #[.slice A0_0 l0_0.length c0_0,.slice A0_1 l0_1.length c0_1]] w fun e w'=>e = .returned (.bool r)∧Below w.heap.size w w':=by
 have hu25:=Try.underlying25
 have hu42:=Try.underlying42
 have HR0_0:=A_ hr0_0
 have HC0_0:=A_ hc0_0
 clear hr0_0 hc0_0
 have HR0_1:=A_ hr0_1
 have HC0_1:=A_ hc0_1
 clear hr0_1 hc0_1
 have HB:=A_ (Below.refl w.heap.size w)
 have H : (if (l0_0.length : Int) < 1 then (device_Valid.j0 k true l0_0 l0_1) else (if (l0_0.length : Int) > 256 then (device_Valid.j0 k true l0_0 l0_1) else (device_Valid.j0 k (decide ((l0_1.length : Int) > 300)) l0_0 l0_1))) = some r:=h
 clear h
 have HC2:=A_ H
 clear H
 go_enter Try.func19,Try.ntmps19
 go_upto_region 1 with (first|((with_reducible refine gate_dst (N:=1) rfl ?_);(try (refine gate_guard (by rfl) ?_;dsimp only));refine box_event ?hg (N:=1) ?hd (cs:=#[.slice A0_0 l0_0.length c0_0,.slice A0_1 l0_1.length c0_1]) (t:=25) ?hr ?_;(case hd=>rfl);(case hg=>rfl);(case hr=>first|(go_simp;done)|(go_simp;rfl));intro gb127 hg w3 hbox hb;have n0_:=A_ (below_step (by repeat (first|(with_reducible first|exact HB.out|apply ba|apply bb|apply bc)|exact HB.out)) hb);have n1_:=A_ (hbox);have n2_:=A_ ((by rw [hg];exact (below_size (by repeat (first|(with_reducible first|exact HB.out|apply ba|apply bb|apply bc)|exact HB.out))) : w.heap.size ≤ gb127));have n3_:=A_ ((by rw [hg];exact (below_size (by repeat (first|(with_reducible first|exact HB.out|apply ba|apply bb|apply bc)|exact HB.out))) : w.heap.size ≤ gb127));clear HB;have HB:=n0_;have BK127:=n1_;have GW127:=n2_;have GE127:=n3_;clear n0_ n1_ n2_ n3_;clear hb hbox hg))
 (try simp only [Act.put,List.setIfInBounds_toArray,List.set_cons_zero,List.set_cons_succ])
 go_cut [22] (fun v22 wc=>∃ (kq : Nat) (x22_1 : Bool),v22 = .bool x22_1∧Aside0 (device_Valid.j0 kq x22_1 l0_0 l0_1 = some r)∧Aside0 (kq ≤ k)∧Aside0 (wc.heap[gb127]? = some (.cells #[(.slice A0_0 l0_0.length c0_0),(.slice A0_1 l0_1.length c0_1)] 25 (0,0)))∧Aside0 (Below w.heap.size w wc))
 case first =>
  have H:=HC2.out
  clear HC2
  by_cases c4 : (l0_0.length : Int) < 1
  ·
   rw [if_pos c4] at H
   have c4b0 : decide ((l0_0.length : Int) < 1) = true:=decide_eq_true c4
   have c4b1 : decide (l0_0.length < 1) = true:=decide_eq_true (by omega)
   clear c4
   (first|rw [c4b0]|(simp only [i64_w,i32_w];rw [c4b0])|skip)
   have H':=A_ H
   clear H
   have hcz5_0 : w3.cell? ⟨gb127,0,none⟩ = some (.slice A0_0 l0_0.length c0_0):=(blk_cell BK127.out 0).trans rfl
   have hcz5_1 : w3.cell? ⟨gb127,1,none⟩ = some (.slice A0_1 l0_1.length c0_1):=(blk_cell BK127.out 1).trans rfl
   have hfz5_0:=blk_frozen BK127.out 0
   have hfz5_1:=blk_frozen BK127.out 1
   go_wp2
   go_meet
   case rel=>exact ⟨_,(true),(by first|rfl|(simp;done)|(simp [*];done)),H',⟨by first|omega|exact Nat.le_refl _⟩,⟨by (with_reducible repeat (first|refine blk_drewN ?_ _|refine blk_drew ?_|refine blk_alloc ?_ _));exact BK127.out⟩,⟨by repeat (first|(with_reducible first|exact HB.out|apply ba|apply bb|apply bc|refine below_set ?_ GE127.out)|exact HB.out)⟩⟩
  ·
   rw [if_neg c4] at H
   have c4b0 : decide ((l0_0.length : Int) < 1) = false:=decide_eq_false c4
   have c4b1 : decide (l0_0.length < 1) = false:=decide_eq_false (by omega)
   clear c4
   (first|rw [c4b0]|(simp only [i64_w,i32_w];rw [c4b0])|skip)
   by_cases c6 : (l0_0.length : Int) > 256
   ·
    rw [if_pos c6] at H
    have c6b0 : decide (256 < (l0_0.length : Int)) = true:=decide_eq_true c6
    have c6b1 : decide (256 < l0_0.length) = true:=decide_eq_true (by omega)
    clear c6
    have H':=A_ H
    clear H
    have hcz7_0 : w3.cell? ⟨gb127,0,none⟩ = some (.slice A0_0 l0_0.length c0_0):=(blk_cell BK127.out 0).trans rfl
    have hcz7_1 : w3.cell? ⟨gb127,1,none⟩ = some (.slice A0_1 l0_1.length c0_1):=(blk_cell BK127.out 1).trans rfl
    have hfz7_0:=blk_frozen BK127.out 0
    have hfz7_1:=blk_frozen BK127.out 1
    go_wp2
    go_meet
    case rel=>exact ⟨_,(true),(by first|rfl|(simp;done)|(simp [*];done)),H',⟨by first|omega|exact Nat.le_refl _⟩,⟨by (with_reducible repeat (first|refine blk_drewN ?_ _|refine blk_drew ?_|refine blk_alloc ?_ _));exact BK127.out⟩,⟨by repeat (first|(with_reducible first|exact HB.out|apply ba|apply bb|apply bc|refine below_set ?_ GE127.out)|exact HB.out)⟩⟩
   ·
    rw [if_neg c6] at H
    have c6b0 : decide (256 < (l0_0.length : Int)) = false:=decide_eq_false c6
    have c6b1 : decide (256 < l0_0.length) = false:=decide_eq_false (by omega)
    clear c6
    have H':=A_ H
    clear H
    have hcz8_0 : w3.cell? ⟨gb127,0,none⟩ = some (.slice A0_0 l0_0.length c0_0):=(blk_cell BK127.out 0).trans rfl
    have hcz8_1 : w3.cell? ⟨gb127,1,none⟩ = some (.slice A0_1 l0_1.length c0_1):=(blk_cell BK127.out 1).trans rfl
    have hfz8_0:=blk_frozen BK127.out 0
    have hfz8_1:=blk_frozen BK127.out 1
    go_wp2
    go_meet
    case rel=>exact ⟨_,(decide ((l0_1.length : Int) > 300)),(by first|rfl|(simp;done)|(simp [*];done)),H',⟨by first|omega|exact Nat.le_refl _⟩,⟨by (with_reducible repeat (first|refine blk_drewN ?_ _|refine blk_drew ?_|refine blk_alloc ?_ _));exact BK127.out⟩,⟨by repeat (first|(with_reducible first|exact HB.out|apply ba|apply bb|apply bc|refine below_set ?_ GE127.out)|exact HB.out)⟩⟩
 case rest =>
  clear HC2
  try clear c1
  try clear p2
  try clear c4
  try clear c4b0
  try clear c4b1
  try clear c6
  try clear c6b0
  try clear c6b1
  try clear hcz5_0
  try clear hcz5_1
  try clear hcz7_0
  try clear hcz7_1
  try clear hcz8_0
  try clear hcz8_1
  try clear hfz5_0
  try clear hfz5_1
  try clear hfz7_0
  try clear hfz7_1
  try clear hfz8_0
  try clear hfz8_1
  obtain ⟨kq,x22_1,rfl,HA,HJ1,BK127,HB⟩:=hcut
  cases kq with
  | zero=>exact absurd HA.out (by simp [device_Valid.j0])
  | succ kj1 =>
   have H:=HA.out
   clear HA
   simp only [device_Valid.j0] at H
   by_cases c9 : x22_1 = true
   ·
    subst c9
    have H1 : (some false) = some r:=by rw [if_pos rfl] at H;exact H
    clear H
    have H:=H1
    clear H1
    obtain rfl:=Option.some.inj H
    go_wp2
    go_ret
    exact ⟨by first|rfl|(simp [errW_none,errW_some] <;> rfl)|(simp [*,errW_none,errW_some] <;> rfl),by repeat (first|(with_reducible first|exact HB.out|apply ba|apply bb|apply bc|refine below_set ?_ GE127.out)|exact HB.out)⟩
   ·
    replace c9:=Bool.eq_false_iff.mpr c9
    subst c9
    have H1 : (device_Valid.l0 kj1 l0_0 (l0_0.length : Int) 0 l0_0 l0_1) = some r:=by rw [if_neg (show ¬ (false = true) by decide)] at H;exact H
    clear H
    have H:=H1
    clear H1
    have H':=A_ H
    clear H
    have hcz10_0 : wc.cell? ⟨gb127,0,none⟩ = some (.slice A0_0 l0_0.length c0_0):=(blk_cell BK127.out 0).trans rfl
    have hcz10_1 : wc.cell? ⟨gb127,1,none⟩ = some (.slice A0_1 l0_1.length c0_1):=(blk_cell BK127.out 1).trans rfl
    have hfz10_0:=blk_frozen BK127.out 0
    have hfz10_1:=blk_frozen BK127.out 1
    go_wp2
    go_loopg [26] kj1 (fun kq v26 w'=>∃ (x26_2 : Int),v26 = .int .i64 x26_2∧Aside0 (device_Valid.l0 kq l0_0 (l0_0.length : Int) x26_2 l0_0 l0_1 = some r)∧Aside0 (kq ≤ kj1)∧Aside0 (w'.heap[gb127]? = some (.cells #[(.slice A0_0 l0_0.length c0_0),(.slice A0_1 l0_1.length c0_1)] 25 (0,0)))∧Aside0 (Below w.heap.size w w'))
    case atStart=>exact ⟨(0),(by first|rfl|(simp;done)|(simp [*];done)),H',⟨Nat.le_refl _⟩,⟨by (with_reducible repeat (first|refine blk_drewN ?_ _|refine blk_drew ?_|refine blk_alloc ?_ _));exact BK127.out⟩,⟨by repeat (first|(with_reducible first|exact HB.out|apply ba|apply bb|apply bc|refine below_set ?_ GE127.out)|exact HB.out)⟩⟩
    case round =>
     clear H'
     try clear c1
     try clear p2
     try clear c4
     try clear c4b0
     try clear c4b1
     try clear c6
     try clear c6b0
     try clear c6b1
     try clear c9
     try clear hcz10_0
     try clear hcz10_1
     try clear hcz5_0
     try clear hcz5_1
     try clear hcz7_0
     try clear hcz7_1
     try clear hcz8_0
     try clear hcz8_1
     try clear hfz10_0
     try clear hfz10_1
     try clear hfz5_0
     try clear hfz5_1
     try clear hfz7_0
     try clear hfz7_1
     try clear hfz8_0
     try clear hfz8_1
     try clear p2
     obtain ⟨x26_2,rfl,HA,HK2,BK127,HB⟩:=hrel
     cases gk with
     | zero=>exact absurd HA.out (by simp [device_Valid.l0])
     | succ k2 =>
      have H:=HA.out
      clear HA
      simp only [device_Valid.l0] at H
      by_cases c11 : x26_2 < (l0_0.length : Int)
      ·
       rw [if_pos c11] at H
       have c11b0 : decide (x26_2 < (l0_0.length : Int)) = true:=decide_eq_true c11
       clear c11
       by_cases c12 : 0 ≤ x26_2
       ·
        rw [if_pos c12] at H
        have c12b0 : decide (0 ≤ x26_2) = true:=decide_eq_true c12
        clear c12
        by_cases c13 : x26_2 < (l0_0.length : Int)
        ·
         rw [if_pos c13] at H
         have c13b0 : decide (x26_2 < (l0_0.length : Int)) = true:=decide_eq_true c13
         clear c13
         by_cases c14 : ((rd_L1 l0_0 x26_2).length : Int) = 64
         ·
          rw [if_pos c14] at H
          have c14b0 : (((rd_L1 l0_0 x26_2).length : Int) == 64) = true:=beq_iff_eq.mpr c14
          have c14b1 : (((rd_L1 l0_0 x26_2).length : Int) != 64) = false:=bne_eq_false_iff_eq.mpr c14
          clear c14
          have H':=A_ H
          clear H
          have p128 : 0 ≤ (x26_2 : Int):=of_decide_eq_true (by first|(with_reducible assumption)|assumption)
          have q128 : x26_2 < (l0_0.length : Int):=of_decide_eq_true (by first|(with_reducible assumption)|assumption)
          obtain ⟨ad128,A128_0,c128_0,e128,hx128_0,hl128_0,hi128_0⟩:=at_L1 HR0_0.out x26_2 p128 q128
          cases e128
          replace hx128_0:=(HB.out.cell (World.block_lt_of_cell? w _ hx128_0)).trans hx128_0
          have HR128_0:=A_ hi128_0
          have HC128_0:=A_ hl128_0
          clear hi128_0 hl128_0
          replace p128:=eq_true p128
          replace q128:=eq_true q128
          go_wp2
          go_roundg k2
          case measure=>have:=HJ1.out;have:=HK2.out;omega
          case rel=>exact ⟨(wrap64 (x26_2 + 1)),(by first|rfl|(simp;done)|(simp [*];done)),H',⟨by have:=HJ1.out;have:=HK2.out;omega⟩,⟨by (with_reducible repeat (first|refine blk_drewN ?_ _|refine blk_drew ?_|refine blk_alloc ?_ _));exact BK127.out⟩,⟨by repeat (first|(with_reducible first|exact HB.out|apply ba|apply bb|apply bc|refine below_set ?_ GE127.out)|exact HB.out)⟩⟩
         ·
          rw [if_neg c14] at H
          have c14b0 : (((rd_L1 l0_0 x26_2).length : Int) == 64) = false:=beq_eq_false_iff_ne.mpr c14
          have c14b1 : (((rd_L1 l0_0 x26_2).length : Int) != 64) = true:=bne_iff_ne.mpr c14
          obtain rfl:=Option.some.inj H
          have p128 : 0 ≤ (x26_2 : Int):=of_decide_eq_true (by first|(with_reducible assumption)|assumption)
          have q128 : x26_2 < (l0_0.length : Int):=of_decide_eq_true (by first|(with_reducible assumption)|assumption)
          obtain ⟨ad128,A128_0,c128_0,e128,hx128_0,hl128_0,hi128_0⟩:=at_L1 HR0_0.out x26_2 p128 q128
          cases e128
          replace hx128_0:=(HB.out.cell (World.block_lt_of_cell? w _ hx128_0)).trans hx128_0
          have HR128_0:=A_ hi128_0
          have HC128_0:=A_ hl128_0
          clear hi128_0 hl128_0
          replace p128:=eq_true p128
          replace q128:=eq_true q128
          go_wp2
          go_ret
          exact ⟨by first|rfl|(simp [errW_none,errW_some] <;> rfl)|(simp [*,errW_none,errW_some] <;> rfl),by repeat (first|(with_reducible first|exact HB.out|apply ba|apply bb|apply bc|refine below_set ?_ GE127.out)|exact HB.out)⟩
        ·
         rw [if_neg c13] at H
         exact absurd H (by simp)
       ·
        rw [if_neg c12] at H
        exact absurd H (by simp)
      ·
       rw [if_neg c11] at H
       have c11b0 : decide (x26_2 < (l0_0.length : Int)) = false:=decide_eq_false c11
       clear c11
       have H':=A_ H
       clear H
       have hcz15_0 : wr.cell? ⟨gb127,0,none⟩ = some (.slice A0_0 l0_0.length c0_0):=(blk_cell BK127.out 0).trans rfl
       have hcz15_1 : wr.cell? ⟨gb127,1,none⟩ = some (.slice A0_1 l0_1.length c0_1):=(blk_cell BK127.out 1).trans rfl
       have hfz15_0:=blk_frozen BK127.out 0
       have hfz15_1:=blk_frozen BK127.out 1
       go_wp2
       go_loopg [37] k2 (fun kq v37 w'=>∃ (x37_3 : Int),v37 = .int .i64 x37_3∧Aside0 (device_Valid.l1 kq l0_1 (l0_1.length : Int) x37_3 l0_0 l0_1 = some r)∧Aside0 (kq ≤ k2)∧Aside0 (w'.heap[gb127]? = some (.cells #[(.slice A0_0 l0_0.length c0_0),(.slice A0_1 l0_1.length c0_1)] 25 (0,0)))∧Aside0 (Below w.heap.size w w'))
       case atStart=>exact ⟨(0),(by first|rfl|(simp;done)|(simp [*];done)),H',⟨Nat.le_refl _⟩,⟨by (with_reducible repeat (first|refine blk_drewN ?_ _|refine blk_drew ?_|refine blk_alloc ?_ _));exact BK127.out⟩,⟨by repeat (first|(with_reducible first|exact HB.out|apply ba|apply bb|apply bc|refine below_set ?_ GE127.out)|exact HB.out)⟩⟩
       case round =>
        clear H'
        try clear c1
        try clear p1
        try clear q1
        try clear hx1
        try clear p2
        try clear c4
        try clear c4b0
        try clear c4b1
        try clear c6
        try clear c6b0
        try clear c6b1
        try clear p6
        try clear c9
        try clear c11
        try clear c11b0
        try clear c12
        try clear c12b0
        try clear p12
        try clear q12
        try clear hx12
        try clear c13
        try clear c13b0
        try clear c14
        try clear c14b0
        try clear c14b1
        try clear hcz10_0
        try clear hcz10_1
        try clear hcz15_0
        try clear hcz15_1
        try clear hcz5_0
        try clear hcz5_1
        try clear hcz7_0
        try clear hcz7_1
        try clear hcz8_0
        try clear hcz8_1
        try clear hfz10_0
        try clear hfz10_1
        try clear hfz15_0
        try clear hfz15_1
        try clear hfz5_0
        try clear hfz5_1
        try clear hfz7_0
        try clear hfz7_1
        try clear hfz8_0
        try clear hfz8_1
        try clear hx128_0
        try clear p128
        try clear p2
        try clear q128
        obtain ⟨x37_3,rfl,HA,HK3,BK127,HB⟩:=hrel
        cases gk with
        | zero=>exact absurd HA.out (by simp [device_Valid.l1])
        | succ k3 =>
         have H:=HA.out
         clear HA
         simp only [device_Valid.l1] at H
         by_cases c16 : x37_3 < (l0_1.length : Int)
         ·
          rw [if_pos c16] at H
          have c16b0 : decide (x37_3 < (l0_1.length : Int)) = true:=decide_eq_true c16
          clear c16
          by_cases c17 : 0 ≤ x37_3
          ·
           rw [if_pos c17] at H
           have c17b0 : decide (0 ≤ x37_3) = true:=decide_eq_true c17
           clear c17
           by_cases c18 : x37_3 < (l0_1.length : Int)
           ·
            rw [if_pos c18] at H
            have c18b0 : decide (x37_3 < (l0_1.length : Int)) = true:=decide_eq_true c18
            clear c18
            by_cases c19 : ((rd_T42 l0_1 x37_3).f0) < 0
            ·
             rw [if_pos c19] at H
             have c19b0 : decide (((rd_T42 l0_1 x37_3).f0) < 0) = true:=decide_eq_true c19
             clear c19
             obtain rfl:=Option.some.inj H
             have p129 : 0 ≤ (x37_3 : Int):=of_decide_eq_true (by first|(with_reducible assumption)|assumption)
             have q129 : x37_3 < (l0_1.length : Int):=of_decide_eq_true (by first|(with_reducible assumption)|assumption)
             obtain ⟨ad129,A129_1,c129_1,e129,hx129_0,hx129_1,hl129_1,hi129_1⟩:=at_T42 HR0_1.out x37_3 p129 q129
             cases e129
             replace hx129_0:=(HB.out.cell (World.block_lt_of_cell? w _ hx129_0)).trans hx129_0
             replace hx129_1:=(HB.out.cell (World.block_lt_of_cell? w _ hx129_1)).trans hx129_1
             have HR129_1:=A_ hi129_1
             have HC129_1:=A_ hl129_1
             clear hi129_1 hl129_1
             replace p129:=eq_true p129
             replace q129:=eq_true q129
             go_wp2_with (first|((with_reducible refine gate_dst (N:=6) rfl ?_);(try (refine gate_guard (by rfl) ?_;dsimp only));refine box_event ?hg (N:=6) ?hd (cs:=#[.int .i64 0,.slice none 0 0]) (t:=42) ?hr ?_;(case hd=>rfl);(case hg=>rfl);(case hr=>first|(go_simp;done)|(go_simp;rfl));intro gb130 hg w20 hbox hb;have n0_:=A_ (blk_below (g:=gb127) (o:=.cells #[.slice A0_0 l0_0.length c0_0,.slice (some ad129) l0_1.length c0_1] 25 (0,0)) (by (with_reducible repeat (first|refine blk_drewN ?_ _|refine blk_drew ?_|refine blk_alloc ?_ _));exact BK127.out) hb);have n1_:=A_ (below_step (by repeat (first|(with_reducible first|exact HB.out|apply ba|apply bb|apply bc|refine below_set ?_ GE127.out)|exact HB.out)) hb);have n2_:=A_ (hbox);have n3_:=A_ ((by rw [hg];exact (below_size (by repeat (first|(with_reducible first|exact HB.out|apply ba|apply bb|apply bc|refine below_set ?_ GE127.out)|exact HB.out))) : w.heap.size ≤ gb130));have n4_:=A_ ((by rw [hg];exact (below_size (by repeat (first|(with_reducible first|exact HB.out|apply ba|apply bb|apply bc|refine below_set ?_ GE127.out)|exact HB.out))) : w.heap.size ≤ gb130));have n5_:=A_ ((by rw [hg];exact Nat.ne_of_lt (blk_lt (g:=gb127) (o:=.cells #[.slice A0_0 l0_0.length c0_0,.slice (some ad129) l0_1.length c0_1] 25 (0,0)) (by (with_reducible repeat (first|refine blk_drewN ?_ _|refine blk_drew ?_|refine blk_alloc ?_ _));exact BK127.out)) : gb127≠gb130));have n6_:=A_ ((by rw [hg];exact Nat.ne_of_gt (blk_lt (g:=gb127) (o:=.cells #[.slice A0_0 l0_0.length c0_0,.slice (some ad129) l0_1.length c0_1] 25 (0,0)) (by (with_reducible repeat (first|refine blk_drewN ?_ _|refine blk_drew ?_|refine blk_alloc ?_ _));exact BK127.out)) : gb130≠gb127));clear BK127;clear HB;have BK127:=n0_;have HB:=n1_;have BK130:=n2_;have GW130:=n3_;have GE130:=n4_;have NB127_130:=n5_;have NB130_127:=n6_;clear n0_ n1_ n2_ n3_ n4_ n5_ n6_;clear hb hbox hg;have hnb21:=NB130_127.out;have hnc21:=NB127_130.out;have hcz22_0 : w20.cell? ⟨gb130,0,none⟩ = some (.int .i64 0):=(blk_cell BK130.out 0).trans rfl;have hcz22_1 : w20.cell? ⟨gb130,1,none⟩ = some (.slice none 0 0):=(blk_cell BK130.out 1).trans rfl;have hfz22_0:=blk_frozen BK130.out 0;have hfz22_1:=blk_frozen BK130.out 1))
             go_ret
             exact ⟨by first|rfl|(simp [errW_none,errW_some] <;> rfl)|(simp [*,errW_none,errW_some] <;> rfl),by repeat (first|(with_reducible first|exact HB.out|apply ba|apply bb|apply bc|refine below_set ?_ GE127.out|refine below_set ?_ GE130.out)|exact HB.out)⟩
            ·
             rw [if_neg c19] at H
             have c19b0 : decide (((rd_T42 l0_1 x37_3).f0) < 0) = false:=decide_eq_false c19
             clear c19
             by_cases c23 : ((rd_T42 l0_1 x37_3).f0) ≥ (l0_0.length : Int)
             ·
              rw [if_pos c23] at H
              have c23b0 : decide ((l0_0.length : Int) ≤ ((rd_T42 l0_1 x37_3).f0)) = true:=decide_eq_true c23
              clear c23
              obtain rfl:=Option.some.inj H
              have p129 : 0 ≤ (x37_3 : Int):=of_decide_eq_true (by first|(with_reducible assumption)|assumption)
              have q129 : x37_3 < (l0_1.length : Int):=of_decide_eq_true (by first|(with_reducible assumption)|assumption)
              obtain ⟨ad129,A129_1,c129_1,e129,hx129_0,hx129_1,hl129_1,hi129_1⟩:=at_T42 HR0_1.out x37_3 p129 q129
              cases e129
              replace hx129_0:=(HB.out.cell (World.block_lt_of_cell? w _ hx129_0)).trans hx129_0
              replace hx129_1:=(HB.out.cell (World.block_lt_of_cell? w _ hx129_1)).trans hx129_1
              have HR129_1:=A_ hi129_1
              have HC129_1:=A_ hl129_1
              clear hi129_1 hl129_1
              replace p129:=eq_true p129
              replace q129:=eq_true q129
              go_wp2_with (first|((with_reducible refine gate_dst (N:=6) rfl ?_);(try (refine gate_guard (by rfl) ?_;dsimp only));refine box_event ?hg (N:=6) ?hd (cs:=#[.int .i64 0,.slice none 0 0]) (t:=42) ?hr ?_;(case hd=>rfl);(case hg=>rfl);(case hr=>first|(go_simp;done)|(go_simp;rfl));intro gb130 hg w24 hbox hb;have n0_:=A_ (blk_below (g:=gb127) (o:=.cells #[.slice A0_0 l0_0.length c0_0,.slice (some ad129) l0_1.length c0_1] 25 (0,0)) (by (with_reducible repeat (first|refine blk_drewN ?_ _|refine blk_drew ?_|refine blk_alloc ?_ _));exact BK127.out) hb);have n1_:=A_ (below_step (by repeat (first|(with_reducible first|exact HB.out|apply ba|apply bb|apply bc|refine below_set ?_ GE127.out)|exact HB.out)) hb);have n2_:=A_ (hbox);have n3_:=A_ ((by rw [hg];exact (below_size (by repeat (first|(with_reducible first|exact HB.out|apply ba|apply bb|apply bc|refine below_set ?_ GE127.out)|exact HB.out))) : w.heap.size ≤ gb130));have n4_:=A_ ((by rw [hg];exact (below_size (by repeat (first|(with_reducible first|exact HB.out|apply ba|apply bb|apply bc|refine below_set ?_ GE127.out)|exact HB.out))) : w.heap.size ≤ gb130));have n5_:=A_ ((by rw [hg];exact Nat.ne_of_lt (blk_lt (g:=gb127) (o:=.cells #[.slice A0_0 l0_0.length c0_0,.slice (some ad129) l0_1.length c0_1] 25 (0,0)) (by (with_reducible repeat (first|refine blk_drewN ?_ _|refine blk_drew ?_|refine blk_alloc ?_ _));exact BK127.out)) : gb127≠gb130));have n6_:=A_ ((by rw [hg];exact Nat.ne_of_gt (blk_lt (g:=gb127) (o:=.cells #[.slice A0_0 l0_0.length c0_0,.slice (some ad129) l0_1.length c0_1] 25 (0,0)) (by (with_reducible repeat (first|refine blk_drewN ?_ _|refine blk_drew ?_|refine blk_alloc ?_ _));exact BK127.out)) : gb130≠gb127));clear BK127;clear HB;have BK127:=n0_;have HB:=n1_;have BK130:=n2_;have GW130:=n3_;have GE130:=n4_;have NB127_130:=n5_;have NB130_127:=n6_;clear n0_ n1_ n2_ n3_ n4_ n5_ n6_;clear hb hbox hg;have hnb25:=NB130_127.out;have hnc25:=NB127_130.out;have hcz26_0 : w24.cell? ⟨gb130,0,none⟩ = some (.int .i64 0):=(blk_cell BK130.out 0).trans rfl;have hcz26_1 : w24.cell? ⟨gb130,1,none⟩ = some (.slice none 0 0):=(blk_cell BK130.out 1).trans rfl;have hfz26_0:=blk_frozen BK130.out 0;have hfz26_1:=blk_frozen BK130.out 1;have hcz27_0 : w24.cell? ⟨gb127,0,none⟩ = some (.slice A0_0 l0_0.length c0_0):=(blk_cell BK127.out 0).trans rfl;have hcz27_1 : w24.cell? ⟨gb127,1,none⟩ = some (.slice (some ad129) l0_1.length c0_1):=(blk_cell BK127.out 1).trans rfl;have hfz27_0:=blk_frozen BK127.out 0;have hfz27_1:=blk_frozen BK127.out 1))
              go_ret
              exact ⟨by first|rfl|(simp [errW_none,errW_some] <;> rfl)|(simp [*,errW_none,errW_some] <;> rfl),by repeat (first|(with_reducible first|exact HB.out|apply ba|apply bb|apply bc|refine below_set ?_ GE127.out|refine below_set ?_ GE130.out)|exact HB.out)⟩
             ·
              rw [if_neg c23] at H
              have c23b0 : decide ((l0_0.length : Int) ≤ ((rd_T42 l0_1 x37_3).f0)) = false:=decide_eq_false c23
              clear c23
              by_cases c28 : (((rd_T42 l0_1 x37_3).f1).length : Int) = 64
              ·
               rw [if_pos c28] at H
               have c28b0 : ((((rd_T42 l0_1 x37_3).f1).length : Int) == 64) = true:=beq_iff_eq.mpr c28
               have c28b1 : ((((rd_T42 l0_1 x37_3).f1).length : Int) != 64) = false:=bne_eq_false_iff_eq.mpr c28
               clear c28
               have H':=A_ H
               clear H
               have p129 : 0 ≤ (x37_3 : Int):=of_decide_eq_true (by first|(with_reducible assumption)|assumption)
               have q129 : x37_3 < (l0_1.length : Int):=of_decide_eq_true (by first|(with_reducible assumption)|assumption)
               obtain ⟨ad129,A129_1,c129_1,e129,hx129_0,hx129_1,hl129_1,hi129_1⟩:=at_T42 HR0_1.out x37_3 p129 q129
               cases e129
               replace hx129_0:=(HB.out.cell (World.block_lt_of_cell? w _ hx129_0)).trans hx129_0
               replace hx129_1:=(HB.out.cell (World.block_lt_of_cell? w _ hx129_1)).trans hx129_1
               have HR129_1:=A_ hi129_1
               have HC129_1:=A_ hl129_1
               clear hi129_1 hl129_1
               replace p129:=eq_true p129
               replace q129:=eq_true q129
               go_wp2_with (first|((with_reducible refine gate_dst (N:=6) rfl ?_);(try (refine gate_guard (by rfl) ?_;dsimp only));refine box_event ?hg (N:=6) ?hd (cs:=#[.int .i64 0,.slice none 0 0]) (t:=42) ?hr ?_;(case hd=>rfl);(case hg=>rfl);(case hr=>first|(go_simp;done)|(go_simp;rfl));intro gb130 hg w29 hbox hb;have n0_:=A_ (blk_below (g:=gb127) (o:=.cells #[.slice A0_0 l0_0.length c0_0,.slice (some ad129) l0_1.length c0_1] 25 (0,0)) (by (with_reducible repeat (first|refine blk_drewN ?_ _|refine blk_drew ?_|refine blk_alloc ?_ _));exact BK127.out) hb);have n1_:=A_ (below_step (by repeat (first|(with_reducible first|exact HB.out|apply ba|apply bb|apply bc|refine below_set ?_ GE127.out)|exact HB.out)) hb);have n2_:=A_ (hbox);have n3_:=A_ ((by rw [hg];exact (below_size (by repeat (first|(with_reducible first|exact HB.out|apply ba|apply bb|apply bc|refine below_set ?_ GE127.out)|exact HB.out))) : w.heap.size ≤ gb130));have n4_:=A_ ((by rw [hg];exact (below_size (by repeat (first|(with_reducible first|exact HB.out|apply ba|apply bb|apply bc|refine below_set ?_ GE127.out)|exact HB.out))) : w.heap.size ≤ gb130));have n5_:=A_ ((by rw [hg];exact Nat.ne_of_lt (blk_lt (g:=gb127) (o:=.cells #[.slice A0_0 l0_0.length c0_0,.slice (some ad129) l0_1.length c0_1] 25 (0,0)) (by (with_reducible repeat (first|refine blk_drewN ?_ _|refine blk_drew ?_|refine blk_alloc ?_ _));exact BK127.out)) : gb127≠gb130));have n6_:=A_ ((by rw [hg];exact Nat.ne_of_gt (blk_lt (g:=gb127) (o:=.cells #[.slice A0_0 l0_0.length c0_0,.slice (some ad129) l0_1.length c0_1] 25 (0,0)) (by (with_reducible repeat (first|refine blk_drewN ?_ _|refine blk_drew ?_|refine blk_alloc ?_ _));exact BK127.out)) : gb130≠gb127));clear BK127;clear HB;have BK127:=n0_;have HB:=n1_;have BK130:=n2_;have GW130:=n3_;have GE130:=n4_;have NB127_130:=n5_;have NB130_127:=n6_;clear n0_ n1_ n2_ n3_ n4_ n5_ n6_;clear hb hbox hg;have hnb30:=NB130_127.out;have hnc30:=NB127_130.out;have hcz31_0 : w29.cell? ⟨gb130,0,none⟩ = some (.int .i64 0):=(blk_cell BK130.out 0).trans rfl;have hcz31_1 : w29.cell? ⟨gb130,1,none⟩ = some (.slice none 0 0):=(blk_cell BK130.out 1).trans rfl;have hfz31_0:=blk_frozen BK130.out 0;have hfz31_1:=blk_frozen BK130.out 1;have hcz32_0 : w29.cell? ⟨gb127,0,none⟩ = some (.slice A0_0 l0_0.length c0_0):=(blk_cell BK127.out 0).trans rfl;have hcz32_1 : w29.cell? ⟨gb127,1,none⟩ = some (.slice (some ad129) l0_1.length c0_1):=(blk_cell BK127.out 1).trans rfl;have hfz32_0:=blk_frozen BK127.out 0;have hfz32_1:=blk_frozen BK127.out 1))
               go_roundg k3
               case measure=>have:=HJ1.out;have:=HK2.out;have:=HK3.out;omega
               case rel=>exact ⟨(wrap64 (x37_3 + 1)),(by first|rfl|(simp;done)|(simp [*];done)),H',⟨by have:=HJ1.out;have:=HK2.out;have:=HK3.out;omega⟩,⟨by (with_reducible repeat (first|refine blk_drewN ?_ _|refine blk_drew ?_|refine blk_alloc ?_ _));refine blk_far ?_ NB127_130.out _;(with_reducible repeat (first|refine blk_drewN ?_ _|refine blk_drew ?_|refine blk_alloc ?_ _));refine blk_far ?_ NB127_130.out _;(with_reducible repeat (first|refine blk_drewN ?_ _|refine blk_drew ?_|refine blk_alloc ?_ _));exact BK127.out⟩,⟨by repeat (first|(with_reducible first|exact HB.out|apply ba|apply bb|apply bc|refine below_set ?_ GE127.out|refine below_set ?_ GE130.out)|exact HB.out)⟩⟩
              ·
               rw [if_neg c28] at H
               have c28b0 : ((((rd_T42 l0_1 x37_3).f1).length : Int) == 64) = false:=beq_eq_false_iff_ne.mpr c28
               have c28b1 : ((((rd_T42 l0_1 x37_3).f1).length : Int) != 64) = true:=bne_iff_ne.mpr c28
               obtain rfl:=Option.some.inj H
               have p129 : 0 ≤ (x37_3 : Int):=of_decide_eq_true (by first|(with_reducible assumption)|assumption)
               have q129 : x37_3 < (l0_1.length : Int):=of_decide_eq_true (by first|(with_reducible assumption)|assumption)
               obtain ⟨ad129,A129_1,c129_1,e129,hx129_0,hx129_1,hl129_1,hi129_1⟩:=at_T42 HR0_1.out x37_3 p129 q129
               cases e129
               replace hx129_0:=(HB.out.cell (World.block_lt_of_cell? w _ hx129_0)).trans hx129_0
               replace hx129_1:=(HB.out.cell (World.block_lt_of_cell? w _ hx129_1)).trans hx129_1
               have HR129_1:=A_ hi129_1
               have HC129_1:=A_ hl129_1
               clear hi129_1 hl129_1
               replace p129:=eq_true p129
               replace q129:=eq_true q129
               go_wp2_with (first|((with_reducible refine gate_dst (N:=6) rfl ?_);(try (refine gate_guard (by rfl) ?_;dsimp only));refine box_event ?hg (N:=6) ?hd (cs:=#[.int .i64 0,.slice none 0 0]) (t:=42) ?hr ?_;(case hd=>rfl);(case hg=>rfl);(case hr=>first|(go_simp;done)|(go_simp;rfl));intro gb130 hg w33 hbox hb;have n0_:=A_ (blk_below (g:=gb127) (o:=.cells #[.slice A0_0 l0_0.length c0_0,.slice (some ad129) l0_1.length c0_1] 25 (0,0)) (by (with_reducible repeat (first|refine blk_drewN ?_ _|refine blk_drew ?_|refine blk_alloc ?_ _));exact BK127.out) hb);have n1_:=A_ (below_step (by repeat (first|(with_reducible first|exact HB.out|apply ba|apply bb|apply bc|refine below_set ?_ GE127.out)|exact HB.out)) hb);have n2_:=A_ (hbox);have n3_:=A_ ((by rw [hg];exact (below_size (by repeat (first|(with_reducible first|exact HB.out|apply ba|apply bb|apply bc|refine below_set ?_ GE127.out)|exact HB.out))) : w.heap.size ≤ gb130));have n4_:=A_ ((by rw [hg];exact (below_size (by repeat (first|(with_reducible first|exact HB.out|apply ba|apply bb|apply bc|refine below_set ?_ GE127.out)|exact HB.out))) : w.heap.size ≤ gb130));have n5_:=A_ ((by rw [hg];exact Nat.ne_of_lt (blk_lt (g:=gb127) (o:=.cells #[.slice A0_0 l0_0.length c0_0,.slice (some ad129) l0_1.length c0_1] 25 (0,0)) (by (with_reducible repeat (first|refine blk_drewN ?_ _|refine blk_drew ?_|refine blk_alloc ?_ _));exact BK127.out)) : gb127≠gb130));have n6_:=A_ ((by rw [hg];exact Nat.ne_of_gt (blk_lt (g:=gb127) (o:=.cells #[.slice A0_0 l0_0.length c0_0,.slice (some ad129) l0_1.length c0_1] 25 (0,0)) (by (with_reducible repeat (first|refine blk_drewN ?_ _|refine blk_drew ?_|refine blk_alloc ?_ _));exact BK127.out)) : gb130≠gb127));clear BK127;clear HB;have BK127:=n0_;have HB:=n1_;have BK130:=n2_;have GW130:=n3_;have GE130:=n4_;have NB127_130:=n5_;have NB130_127:=n6_;clear n0_ n1_ n2_ n3_ n4_ n5_ n6_;clear hb hbox hg;have hnb34:=NB130_127.out;have hnc34:=NB127_130.out;have hcz35_0 : w33.cell? ⟨gb130,0,none⟩ = some (.int .i64 0):=(blk_cell BK130.out 0).trans rfl;have hcz35_1 : w33.cell? ⟨gb130,1,none⟩ = some (.slice none 0 0):=(blk_cell BK130.out 1).trans rfl;have hfz35_0:=blk_frozen BK130.out 0;have hfz35_1:=blk_frozen BK130.out 1;have hcz36_0 : w33.cell? ⟨gb127,0,none⟩ = some (.slice A0_0 l0_0.length c0_0):=(blk_cell BK127.out 0).trans rfl;have hcz36_1 : w33.cell? ⟨gb127,1,none⟩ = some (.slice (some ad129) l0_1.length c0_1):=(blk_cell BK127.out 1).trans rfl;have hfz36_0:=blk_frozen BK127.out 0;have hfz36_1:=blk_frozen BK127.out 1))
               go_ret
               exact ⟨by first|rfl|(simp [errW_none,errW_some] <;> rfl)|(simp [*,errW_none,errW_some] <;> rfl),by repeat (first|(with_reducible first|exact HB.out|apply ba|apply bb|apply bc|refine below_set ?_ GE127.out|refine below_set ?_ GE130.out)|exact HB.out)⟩
           ·
            rw [if_neg c18] at H
            exact absurd H (by simp)
          ·
           rw [if_neg c17] at H
           exact absurd H (by simp)
         ·
          rw [if_neg c16] at H
          have c16b0 : decide (x37_3 < (l0_1.length : Int)) = false:=decide_eq_false c16
          clear c16
          obtain rfl:=Option.some.inj H
          go_wp2
          go_ret
          exact ⟨by first|rfl|(simp [errW_none,errW_some] <;> rfl)|(simp [*,errW_none,errW_some] <;> rfl),by repeat (first|(with_reducible first|exact HB.out|apply ba|apply bb|apply bc|refine below_set ?_ GE127.out)|exact HB.out)⟩

/-! ### device_checked: function 23 -/
def device_checked.f (k : Nat) (l0_0 : List (List Int)) (l0_1 : List (S42)) (a1 : Int) : Option (Int):=(device_Valid.f k l0_0 l0_1).bind fun t132=>(if t132 = true then (if a1 < 0 then (some 22) else (if a1 ≥ (l0_0.length : Int) then (some 22) else (some 0))) else (some 23))
theorem device_checked.mono : ∀ a0 a1 a2 k,LeO (device_checked.f k a0 a1 a2) (device_checked.f (k + 1) a0 a1 a2):=by
 intro a0 a1 a2 k
 unfold device_checked.f
 repeat' first
   | (with_reducible exact device_Valid.mono _ _ _)
   | (with_reducible exact LeO.refl _)
   | (with_reducible exact LeO.none _)
   | (with_reducible refine LeO.ite ?_ ?_)
   | (with_reducible refine LeO.bind ?_ (fun _=>?_))
   | exact device_Valid.mono _ _ _
   | exact LeO.none _
   | refine LeO.ite ?_ ?_
   | refine LeO.bind ?_ (fun _=>?_)
set_option maxHeartbeats 8000000 in
set_option maxRecDepth 100000 in
theorem device_checked.calls (k : Nat) (A0_0 : Option Addr) (c0_0 : Nat) (l0_0 : List (List Int)) (A0_1 : Option Addr) (c0_1 : Nat) (l0_1 : List (S42)) (a1 : Int) (r : Int) (w : World) (hr0_0 : Kd.C (Kd.slice 5 (Kd.int .u8)) w A0_0 l0_0.length l0_0) (hc0_0 : l0_0.length ≤ c0_0) (hr0_1 : Kd.C k42 w A0_1 l0_1.length l0_1) (hc0_1 : l0_1.length ≤ c0_1) (h : device_checked.f k l0_0 l0_1 a1 = some r) :
  Calls Try.prog 23 #[.agg #[.slice A0_0 l0_0.length c0_0,.slice A0_1 l0_1.length c0_1],.int .i64 a1] w fun e w'=>e = .returned (.int .i64 r)∧Below w.heap.size w w':=by
 have hu25:=Try.underlying25
 have HR0_0:=A_ hr0_0
 have HC0_0:=A_ hc0_0
 clear hr0_0 hc0_0
 have HR0_1:=A_ hr0_1
 have HC0_1:=A_ hc0_1
 clear hr0_1 hc0_1
 have HB:=A_ (Below.refl w.heap.size w)
 have H : ((device_Valid.f k l0_0 l0_1).bind fun t132=>(if t132 = true then (if a1 < 0 then (some 22) else (if a1 ≥ (l0_0.length : Int) then (some 22) else (some 0))) else (some 23))) = some r:=h
 clear h
 replace H:=Option.bind_eq_some_iff.mp H
 obtain ⟨t132,A30,H⟩:=H
 replace H : (if t132 = true then (if a1 < 0 then (some 22) else (if a1 ≥ (l0_0.length : Int) then (some 22) else (some 0))) else (some 23)) = some r:=H
 have A3:=A_ A30
 clear A30
 by_cases c4 : t132 = true
 ·
  subst c4
  have H1 : (if a1 < 0 then (some 22) else (if a1 ≥ (l0_0.length : Int) then (some 22) else (some 0))) = some r:=by rw [if_pos rfl] at H;exact H
  clear H
  have H:=H1
  clear H1
  by_cases c5 : a1 < 0
  ·
   rw [if_pos c5] at H
   have c5b0 : decide (a1 < 0) = true:=decide_eq_true c5
   clear c5
   obtain rfl:=Option.some.inj H
   go_enter Try.func23,Try.ntmps23
   go_wp2_with (first|((with_reducible refine gate_dst (N:=2) rfl ?_);(try (refine gate_guard (by rfl) ?_;dsimp only));refine box_event ?hg (N:=2) ?hd (cs:=#[.slice A0_0 l0_0.length c0_0,.slice A0_1 l0_1.length c0_1]) (t:=25) ?hr ?_;(case hd=>rfl);(case hg=>rfl);(case hr=>first|(go_simp;done)|(go_simp;rfl));intro gb131 hg w6 hbox hb;have n0_:=A_ (below_step (by repeat (first|(with_reducible first|exact HB.out|apply ba|apply bb|apply bc)|exact HB.out)) hb);have n1_:=A_ (hbox);have n2_:=A_ ((by rw [hg];exact (below_size (by repeat (first|(with_reducible first|exact HB.out|apply ba|apply bb|apply bc)|exact HB.out))) : w.heap.size ≤ gb131));have n3_:=A_ ((by rw [hg];exact (below_size (by repeat (first|(with_reducible first|exact HB.out|apply ba|apply bb|apply bc)|exact HB.out))) : w.heap.size ≤ gb131));clear HB;have HB:=n0_;have BK131:=n1_;have GW131:=n2_;have GE131:=n3_;clear n0_ n1_ n2_ n3_;clear hb hbox hg;have hcz7_0 : w6.cell? ⟨gb131,0,none⟩ = some (.slice A0_0 l0_0.length c0_0):=(blk_cell BK131.out 0).trans rfl;have hcz7_1 : w6.cell? ⟨gb131,1,none⟩ = some (.slice A0_1 l0_1.length c0_1):=(blk_cell BK131.out 1).trans rfl;have hfz7_0:=blk_frozen BK131.out 0;have hfz7_1:=blk_frozen BK131.out 1)|((with_reducible refine gate_callee (f:=19) rfl ?_);refine goesL_ (some 7) rfl rfl Try.func19 (by kernel_rfl) rfl #[.agg #[.slice A0_0 l0_0.length c0_0,.slice A0_1 l0_1.length c0_1]] rfl (by (try simp only [List.map_toArray,List.map_cons,List.map_nil]);first|done|rfl|(simp only [List.length_drop,List.length_take];rfl)) ?_;(with_reducible refine (device_Valid.calls k _ _ l0_0 _ _ l0_1 true _ ?side1 ?side2 ?side3 ?side4 A3.out).mono ?_);(case side1=>repeat (first|exact (cl HR0_0.out HB.out)|(with_reducible refine ca ?_ _)|(with_reducible refine cb ?_ _)|(with_reducible refine cc ?_)));(case side2=>exact HC0_0.out);(case side3=>repeat (first|exact (cl HR0_1.out HB.out)|(with_reducible refine ca ?_ _)|(with_reducible refine cb ?_ _)|(with_reducible refine cc ?_)));(case side4=>exact HC0_1.out);rintro e w8 ⟨rfl,hb⟩;refine ⟨_,rfl,?_⟩;have n0_:=A_ (blk_below (g:=gb131) (o:=.cells #[.slice A0_0 l0_0.length c0_0,.slice A0_1 l0_1.length c0_1] 25 (0,0)) (by (with_reducible repeat (first|refine blk_drewN ?_ _|refine blk_drew ?_|refine blk_alloc ?_ _));exact BK131.out) hb);have n1_:=A_ (below_step (by repeat (first|(with_reducible first|exact HB.out|apply ba|apply bb|apply bc|refine below_set ?_ GE131.out)|exact HB.out)) hb);clear BK131;clear HB;have BK131:=n0_;have HB:=n1_;clear n0_ n1_;(try clear hb);(try clear hb2);(try clear hk);(try clear hi)))
   go_ret
   exact ⟨by first|rfl|(simp [errW_none,errW_some] <;> rfl)|(simp [*,errW_none,errW_some] <;> rfl),by repeat (first|(with_reducible first|exact HB.out|apply ba|apply bb|apply bc|refine below_set ?_ GE131.out)|exact HB.out)⟩
  ·
   rw [if_neg c5] at H
   have c5b0 : decide (a1 < 0) = false:=decide_eq_false c5
   clear c5
   by_cases c9 : a1 ≥ (l0_0.length : Int)
   ·
    rw [if_pos c9] at H
    have c9b0 : decide ((l0_0.length : Int) ≤ a1) = true:=decide_eq_true c9
    clear c9
    obtain rfl:=Option.some.inj H
    go_enter Try.func23,Try.ntmps23
    go_wp2_with (first|((with_reducible refine gate_dst (N:=2) rfl ?_);(try (refine gate_guard (by rfl) ?_;dsimp only));refine box_event ?hg (N:=2) ?hd (cs:=#[.slice A0_0 l0_0.length c0_0,.slice A0_1 l0_1.length c0_1]) (t:=25) ?hr ?_;(case hd=>rfl);(case hg=>rfl);(case hr=>first|(go_simp;done)|(go_simp;rfl));intro gb131 hg w10 hbox hb;have n0_:=A_ (below_step (by repeat (first|(with_reducible first|exact HB.out|apply ba|apply bb|apply bc)|exact HB.out)) hb);have n1_:=A_ (hbox);have n2_:=A_ ((by rw [hg];exact (below_size (by repeat (first|(with_reducible first|exact HB.out|apply ba|apply bb|apply bc)|exact HB.out))) : w.heap.size ≤ gb131));have n3_:=A_ ((by rw [hg];exact (below_size (by repeat (first|(with_reducible first|exact HB.out|apply ba|apply bb|apply bc)|exact HB.out))) : w.heap.size ≤ gb131));clear HB;have HB:=n0_;have BK131:=n1_;have GW131:=n2_;have GE131:=n3_;clear n0_ n1_ n2_ n3_;clear hb hbox hg;have hcz11_0 : w10.cell? ⟨gb131,0,none⟩ = some (.slice A0_0 l0_0.length c0_0):=(blk_cell BK131.out 0).trans rfl;have hcz11_1 : w10.cell? ⟨gb131,1,none⟩ = some (.slice A0_1 l0_1.length c0_1):=(blk_cell BK131.out 1).trans rfl;have hfz11_0:=blk_frozen BK131.out 0;have hfz11_1:=blk_frozen BK131.out 1)|((with_reducible refine gate_callee (f:=19) rfl ?_);refine goesL_ (some 7) rfl rfl Try.func19 (by kernel_rfl) rfl #[.agg #[.slice A0_0 l0_0.length c0_0,.slice A0_1 l0_1.length c0_1]] rfl (by (try simp only [List.map_toArray,List.map_cons,List.map_nil]);first|done|rfl|(simp only [List.length_drop,List.length_take];rfl)) ?_;(with_reducible refine (device_Valid.calls k _ _ l0_0 _ _ l0_1 true _ ?side1 ?side2 ?side3 ?side4 A3.out).mono ?_);(case side1=>repeat (first|exact (cl HR0_0.out HB.out)|(with_reducible refine ca ?_ _)|(with_reducible refine cb ?_ _)|(with_reducible refine cc ?_)));(case side2=>exact HC0_0.out);(case side3=>repeat (first|exact (cl HR0_1.out HB.out)|(with_reducible refine ca ?_ _)|(with_reducible refine cb ?_ _)|(with_reducible refine cc ?_)));(case side4=>exact HC0_1.out);rintro e w12 ⟨rfl,hb⟩;refine ⟨_,rfl,?_⟩;have n0_:=A_ (blk_below (g:=gb131) (o:=.cells #[.slice A0_0 l0_0.length c0_0,.slice A0_1 l0_1.length c0_1] 25 (0,0)) (by (with_reducible repeat (first|refine blk_drewN ?_ _|refine blk_drew ?_|refine blk_alloc ?_ _));exact BK131.out) hb);have n1_:=A_ (below_step (by repeat (first|(with_reducible first|exact HB.out|apply ba|apply bb|apply bc|refine below_set ?_ GE131.out)|exact HB.out)) hb);clear BK131;clear HB;have BK131:=n0_;have HB:=n1_;clear n0_ n1_;(try clear hb);(try clear hb2);(try clear hk);(try clear hi);have hcz13_0 : w12.cell? ⟨gb131,0,none⟩ = some (.slice A0_0 l0_0.length c0_0):=(blk_cell BK131.out 0).trans rfl;have hcz13_1 : w12.cell? ⟨gb131,1,none⟩ = some (.slice A0_1 l0_1.length c0_1):=(blk_cell BK131.out 1).trans rfl;have hfz13_0:=blk_frozen BK131.out 0;have hfz13_1:=blk_frozen BK131.out 1))
    go_ret
    exact ⟨by first|rfl|(simp [errW_none,errW_some] <;> rfl)|(simp [*,errW_none,errW_some] <;> rfl),by repeat (first|(with_reducible first|exact HB.out|apply ba|apply bb|apply bc|refine below_set ?_ GE131.out)|exact HB.out)⟩
   ·
    rw [if_neg c9] at H
    have c9b0 : decide ((l0_0.length : Int) ≤ a1) = false:=decide_eq_false c9
    clear c9
    obtain rfl:=Option.some.inj H
    go_enter Try.func23,Try.ntmps23
    go_wp2_with (first|((with_reducible refine gate_dst (N:=2) rfl ?_);(try (refine gate_guard (by rfl) ?_;dsimp only));refine box_event ?hg (N:=2) ?hd (cs:=#[.slice A0_0 l0_0.length c0_0,.slice A0_1 l0_1.length c0_1]) (t:=25) ?hr ?_;(case hd=>rfl);(case hg=>rfl);(case hr=>first|(go_simp;done)|(go_simp;rfl));intro gb131 hg w14 hbox hb;have n0_:=A_ (below_step (by repeat (first|(with_reducible first|exact HB.out|apply ba|apply bb|apply bc)|exact HB.out)) hb);have n1_:=A_ (hbox);have n2_:=A_ ((by rw [hg];exact (below_size (by repeat (first|(with_reducible first|exact HB.out|apply ba|apply bb|apply bc)|exact HB.out))) : w.heap.size ≤ gb131));have n3_:=A_ ((by rw [hg];exact (below_size (by repeat (first|(with_reducible first|exact HB.out|apply ba|apply bb|apply bc)|exact HB.out))) : w.heap.size ≤ gb131));clear HB;have HB:=n0_;have BK131:=n1_;have GW131:=n2_;have GE131:=n3_;clear n0_ n1_ n2_ n3_;clear hb hbox hg;have hcz15_0 : w14.cell? ⟨gb131,0,none⟩ = some (.slice A0_0 l0_0.length c0_0):=(blk_cell BK131.out 0).trans rfl;have hcz15_1 : w14.cell? ⟨gb131,1,none⟩ = some (.slice A0_1 l0_1.length c0_1):=(blk_cell BK131.out 1).trans rfl;have hfz15_0:=blk_frozen BK131.out 0;have hfz15_1:=blk_frozen BK131.out 1)|((with_reducible refine gate_callee (f:=19) rfl ?_);refine goesL_ (some 7) rfl rfl Try.func19 (by kernel_rfl) rfl #[.agg #[.slice A0_0 l0_0.length c0_0,.slice A0_1 l0_1.length c0_1]] rfl (by (try simp only [List.map_toArray,List.map_cons,List.map_nil]);first|done|rfl|(simp only [List.length_drop,List.length_take];rfl)) ?_;(with_reducible refine (device_Valid.calls k _ _ l0_0 _ _ l0_1 true _ ?side1 ?side2 ?side3 ?side4 A3.out).mono ?_);(case side1=>repeat (first|exact (cl HR0_0.out HB.out)|(with_reducible refine ca ?_ _)|(with_reducible refine cb ?_ _)|(with_reducible refine cc ?_)));(case side2=>exact HC0_0.out);(case side3=>repeat (first|exact (cl HR0_1.out HB.out)|(with_reducible refine ca ?_ _)|(with_reducible refine cb ?_ _)|(with_reducible refine cc ?_)));(case side4=>exact HC0_1.out);rintro e w16 ⟨rfl,hb⟩;refine ⟨_,rfl,?_⟩;have n0_:=A_ (blk_below (g:=gb131) (o:=.cells #[.slice A0_0 l0_0.length c0_0,.slice A0_1 l0_1.length c0_1] 25 (0,0)) (by (with_reducible repeat (first|refine blk_drewN ?_ _|refine blk_drew ?_|refine blk_alloc ?_ _));exact BK131.out) hb);have n1_:=A_ (below_step (by repeat (first|(with_reducible first|exact HB.out|apply ba|apply bb|apply bc|refine below_set ?_ GE131.out)|exact HB.out)) hb);clear BK131;clear HB;have BK131:=n0_;have HB:=n1_;clear n0_ n1_;(try clear hb);(try clear hb2);(try clear hk);(try clear hi);have hcz17_0 : w16.cell? ⟨gb131,0,none⟩ = some (.slice A0_0 l0_0.length c0_0):=(blk_cell BK131.out 0).trans rfl;have hcz17_1 : w16.cell? ⟨gb131,1,none⟩ = some (.slice A0_1 l0_1.length c0_1):=(blk_cell BK131.out 1).trans rfl;have hfz17_0:=blk_frozen BK131.out 0;have hfz17_1:=blk_frozen BK131.out 1))
    go_ret
    exact ⟨by first|rfl|(simp [errW_none,errW_some] <;> rfl)|(simp [*,errW_none,errW_some] <;> rfl),by repeat (first|(with_reducible first|exact HB.out|apply ba|apply bb|apply bc|refine below_set ?_ GE131.out)|exact HB.out)⟩
 ·
  replace c4:=Bool.eq_false_iff.mpr c4
  subst c4
  have H1 : (some 23) = some r:=by rw [if_neg (show ¬ (false = true) by decide)] at H;exact H
  clear H
  have H:=H1
  clear H1
  obtain rfl:=Option.some.inj H
  go_enter Try.func23,Try.ntmps23
  go_wp2_with (first|((with_reducible refine gate_dst (N:=2) rfl ?_);(try (refine gate_guard (by rfl) ?_;dsimp only));refine box_event ?hg (N:=2) ?hd (cs:=#[.slice A0_0 l0_0.length c0_0,.slice A0_1 l0_1.length c0_1]) (t:=25) ?hr ?_;(case hd=>rfl);(case hg=>rfl);(case hr=>first|(go_simp;done)|(go_simp;rfl));intro gb131 hg w18 hbox hb;have n0_:=A_ (below_step (by repeat (first|(with_reducible first|exact HB.out|apply ba|apply bb|apply bc)|exact HB.out)) hb);have n1_:=A_ (hbox);have n2_:=A_ ((by rw [hg];exact (below_size (by repeat (first|(with_reducible first|exact HB.out|apply ba|apply bb|apply bc)|exact HB.out))) : w.heap.size ≤ gb131));have n3_:=A_ ((by rw [hg];exact (below_size (by repeat (first|(with_reducible first|exact HB.out|apply ba|apply bb|apply bc)|exact HB.out))) : w.heap.size ≤ gb131));clear HB;have HB:=n0_;have BK131:=n1_;have GW131:=n2_;have GE131:=n3_;clear n0_ n1_ n2_ n3_;clear hb hbox hg;have hcz19_0 : w18.cell? ⟨gb131,0,none⟩ = some (.slice A0_0 l0_0.length c0_0):=(blk_cell BK131.out 0).trans rfl;have hcz19_1 : w18.cell? ⟨gb131,1,none⟩ = some (.slice A0_1 l0_1.length c0_1):=(blk_cell BK131.out 1).trans rfl;have hfz19_0:=blk_frozen BK131.out 0;have hfz19_1:=blk_frozen BK131.out 1)|((with_reducible refine gate_callee (f:=19) rfl ?_);refine goesL_ (some 7) rfl rfl Try.func19 (by kernel_rfl) rfl #[.agg #[.slice A0_0 l0_0.length c0_0,.slice A0_1 l0_1.length c0_1]] rfl (by (try simp only [List.map_toArray,List.map_cons,List.map_nil]);first|done|rfl|(simp only [List.length_drop,List.length_take];rfl)) ?_;(with_reducible refine (device_Valid.calls k _ _ l0_0 _ _ l0_1 false _ ?side1 ?side2 ?side3 ?side4 A3.out).mono ?_);(case side1=>repeat (first|exact (cl HR0_0.out HB.out)|(with_reducible refine ca ?_ _)|(with_reducible refine cb ?_ _)|(with_reducible refine cc ?_)));(case side2=>exact HC0_0.out);(case side3=>repeat (first|exact (cl HR0_1.out HB.out)|(with_reducible refine ca ?_ _)|(with_reducible refine cb ?_ _)|(with_reducible refine cc ?_)));(case side4=>exact HC0_1.out);rintro e w20 ⟨rfl,hb⟩;refine ⟨_,rfl,?_⟩;have n0_:=A_ (blk_below (g:=gb131) (o:=.cells #[.slice A0_0 l0_0.length c0_0,.slice A0_1 l0_1.length c0_1] 25 (0,0)) (by (with_reducible repeat (first|refine blk_drewN ?_ _|refine blk_drew ?_|refine blk_alloc ?_ _));exact BK131.out) hb);have n1_:=A_ (below_step (by repeat (first|(with_reducible first|exact HB.out|apply ba|apply bb|apply bc|refine below_set ?_ GE131.out)|exact HB.out)) hb);clear BK131;clear HB;have BK131:=n0_;have HB:=n1_;clear n0_ n1_;(try clear hb);(try clear hb2);(try clear hk);(try clear hi)))
  go_ret
  exact ⟨by first|rfl|(simp [errW_none,errW_some] <;> rfl)|(simp [*,errW_none,errW_some] <;> rfl),by repeat (first|(with_reducible first|exact HB.out|apply ba|apply bb|apply bc|refine below_set ?_ GE131.out)|exact HB.out)⟩

/-! ### device_Write: function 14 -/
def device_Write.f (k : Nat) (l0_0 : List (List Int)) (l0_1 : List (S42)) (a1 : Int) (l2 : List Int) : Option ((List (List Int)) × (List (S42)) × Int):=(device_copied.f k l0_0 l0_1).bind fun bt135=>((device_checked.f k l0_0 l0_1 a1).bind fun t142=>(if t142 = 0 then (if (l2.length : Int) > 64 then (some (bt135.1,bt135.2,8)) else (if (l0_1.length : Int) = 300 then (some (bt135.1,bt135.2,26)) else ((device_padded.f l2 64).bind fun t143=>(if bt135.2.length < 4398046511104 then (some (bt135.1,(bt135.2 ++ [(⟨a1,t143⟩ : S42)]),0)) else (none))))) else (some (bt135.1,bt135.2,t142))))
theorem device_Write.mono : ∀ a0 a1 a2 a3 k,LeO (device_Write.f k a0 a1 a2 a3) (device_Write.f (k + 1) a0 a1 a2 a3):=by
 intro a0 a1 a2 a3 k
 unfold device_Write.f
 repeat' first
   | (with_reducible exact device_checked.mono _ _ _ _)
   | (with_reducible exact device_copied.mono _ _ _)
   | (with_reducible exact LeO.refl _)
   | (with_reducible exact LeO.none _)
   | (with_reducible refine LeO.ite ?_ ?_)
   | (with_reducible refine LeO.bind ?_ (fun _=>?_))
   | exact device_checked.mono _ _ _ _
   | exact device_copied.mono _ _ _
   | exact LeO.none _
   | refine LeO.ite ?_ ?_
   | refine LeO.bind ?_ (fun _=>?_)
def device_Write.T9 : Bool × List (List Nat × List Nat):=(true,[([],[]),([0],[0]),([],[]),([],[]),([3],[3]),([2,4],[2,4]),([5],[5]),([1,6,4],[1,6]),([0,1,2,3,4,5,6,7],[]),([8,7,7,0,1,2,3,4,5,6,7],[7,8])])
def device_Write.B9 : List Nat:=[0,1,0,0,8,28,60,127,255,511]
theorem device_Write.tab9 : rtab .any (opsOf Try.f14 9) = device_Write.T9:=by kernel_rfl
theorem device_Write.bits9 : waitsOk device_Write.T9.2 device_Write.B9 = true:=by kernel_rfl
set_option maxHeartbeats 8000000 in
set_option maxRecDepth 100000 in
theorem device_Write.calls (k : Nat) (A0_0 : Option Addr) (c0_0 : Nat) (l0_0 : List (List Int)) (A0_1 : Option Addr) (c0_1 : Nat) (l0_1 : List (S42)) (a1 : Int) (A2 : Option Addr) (c2 : Nat) (l2 : List Int) (r1 : List (List Int)) (r2 : List (S42)) (r3 : Int) (w : World) (hr0_0 : Kd.C (Kd.slice 5 (Kd.int .u8)) w A0_0 l0_0.length l0_0) (hc0_0 : l0_0.length ≤ c0_0) (hr0_1 : Kd.C k42 w A0_1 l0_1.length l0_1) (hc0_1 : l0_1.length ≤ c0_1) (hr2 : Kd.C (Kd.int .u8) w A2 l2.length l2) (hc2 : l2.length ≤ c2) (h : device_Write.f k l0_0 l0_1 a1 l2 = some (r1,r2,r3)) :
  Calls Try.prog 14 #[.agg #[.slice A0_0 l0_0.length c0_0,.slice A0_1 l0_1.length c0_1],.int .i64 a1,.slice A2 l2.length c2] w fun e w'=>∃ v0_ v1_ : Value,e = .returned (.tuple #[.agg #[v0_,v1_],.int .i64 r3])∧Kd.S (Kd.slice 5 (Kd.int .u8)) 26 w' w.heap.size (fun _=>True) v0_ r1∧Kd.S k42 42 w' w.heap.size (fun _=>True) v1_ r2∧Below w.heap.size w w':=by
 have hu25:=Try.underlying25
 have hu42:=Try.underlying42
 have HR0_0:=A_ hr0_0
 have HC0_0:=A_ hc0_0
 clear hr0_0 hc0_0
 have HR0_1:=A_ hr0_1
 have HC0_1:=A_ hc0_1
 clear hr0_1 hc0_1
 have HR2:=A_ hr2
 have HC2:=A_ hc2
 clear hr2 hc2
 have HB:=A_ (Below.refl w.heap.size w)
 have H : ((device_copied.f k l0_0 l0_1).bind fun bt135=>((device_checked.f k l0_0 l0_1 a1).bind fun t142=>(if t142 = 0 then (if (l2.length : Int) > 64 then (some (bt135.1,bt135.2,8)) else (if (l0_1.length : Int) = 300 then (some (bt135.1,bt135.2,26)) else ((device_padded.f l2 64).bind fun t143=>(if bt135.2.length < 4398046511104 then (some (bt135.1,(bt135.2 ++ [(⟨a1,t143⟩ : S42)]),0)) else (none))))) else (some (bt135.1,bt135.2,t142))))) = some (r1,r2,r3):=h
 clear h
 replace H:=Option.bind_eq_some_iff.mp H
 obtain ⟨⟨t135,t138⟩,A40,H⟩:=H
 replace H : ((device_checked.f k l0_0 l0_1 a1).bind fun t142=>(if t142 = 0 then (if (l2.length : Int) > 64 then (some (t135,t138,8)) else (if (l0_1.length : Int) = 300 then (some (t135,t138,26)) else ((device_padded.f l2 64).bind fun t143=>(if t138.length < 4398046511104 then (some (t135,(t138 ++ [(⟨a1,t143⟩ : S42)]),0)) else (none))))) else (some (t135,t138,t142)))) = some (r1,r2,r3):=H
 have A4:=A_ A40
 clear A40
 replace H:=Option.bind_eq_some_iff.mp H
 obtain ⟨t142,A50,H⟩:=H
 replace H : (if t142 = 0 then (if (l2.length : Int) > 64 then (some (t135,t138,8)) else (if (l0_1.length : Int) = 300 then (some (t135,t138,26)) else ((device_padded.f l2 64).bind fun t143=>(if t138.length < 4398046511104 then (some (t135,(t138 ++ [(⟨a1,t143⟩ : S42)]),0)) else (none))))) else (some (t135,t138,t142))) = some (r1,r2,r3):=H
 have A5:=A_ A50
 clear A50
 by_cases c6 : t142 = 0
 ·
  rw [if_pos c6] at H
  have c6b0 : (t142 == 0) = true:=beq_iff_eq.mpr c6
  have c6b1 : (t142 != 0) = false:=bne_eq_false_iff_eq.mpr c6
  clear c6
  by_cases c7 : (l2.length : Int) > 64
  ·
   rw [if_pos c7] at H
   have c7b0 : decide (64 < (l2.length : Int)) = true:=decide_eq_true c7
   have c7b1 : decide (64 < l2.length) = true:=decide_eq_true (by omega)
   clear c7
   simp only [Option.some.injEq,Prod.mk.injEq] at H
   obtain ⟨rfl,rfl,rfl⟩:=H
   go_enter Try.func14,Try.ntmps14
   go_wp2_with (first|((with_reducible refine gate_dst (N:=3) rfl ?_);refine box_event ?hg (N:=3) ?hd (cs:=#[.slice A0_0 l0_0.length c0_0,.slice A0_1 l0_1.length c0_1]) (t:=25) ?hr ?_;(case hd=>rfl);(case hg=>rfl);(case hr=>first|(go_simp;done)|(go_simp;rfl));intro gb133 hg w8 hbox hb;have n0_:=A_ (below_step (by repeat (first|(with_reducible first|exact HB.out|apply ba|apply bb|apply bc)|exact HB.out)) hb);have n1_:=A_ (hbox);have n2_:=A_ ((by rw [hg];exact (below_size (by repeat (first|(with_reducible first|exact HB.out|apply ba|apply bb|apply bc)|exact HB.out))) : w.heap.size ≤ gb133));have n3_:=A_ ((by rw [hg];exact (below_size (by repeat (first|(with_reducible first|exact HB.out|apply ba|apply bb|apply bc)|exact HB.out))) : w.heap.size ≤ gb133));clear HB;have HB:=n0_;have BK133:=n1_;have GW133:=n2_;have GE133:=n3_;clear n0_ n1_ n2_ n3_;clear hb hbox hg)|((with_reducible refine gate_dst (N:=6) rfl ?_);refine box_event ?hg (N:=6) ?hd (cs:=#[.slice none 0 0,.slice none 0 0]) (t:=25) ?hr ?_;(case hd=>rfl);(case hg=>rfl);(case hr=>first|(go_simp;done)|(go_simp;rfl));intro gb134 hg w9 hbox hb;have n0_:=A_ (blk_below (g:=gb133) (o:=.cells #[.slice A0_0 l0_0.length c0_0,.slice A0_1 l0_1.length c0_1] 25 (0,0)) (by (with_reducible repeat (first|refine blk_drewN ?_ _|refine blk_drew ?_|refine blk_alloc ?_ _));exact BK133.out) hb);have n1_:=A_ (below_step (by repeat (first|(with_reducible first|exact HB.out|apply ba|apply bb|apply bc|refine below_set ?_ GE133.out)|exact HB.out)) hb);have n2_:=A_ (hbox);have n3_:=A_ ((by rw [hg];exact (below_size (by repeat (first|(with_reducible first|exact HB.out|apply ba|apply bb|apply bc|refine below_set ?_ GE133.out)|exact HB.out))) : w.heap.size ≤ gb134));have n4_:=A_ ((by rw [hg];exact (below_size (by repeat (first|(with_reducible first|exact HB.out|apply ba|apply bb|apply bc|refine below_set ?_ GE133.out)|exact HB.out))) : w.heap.size ≤ gb134));have n5_:=A_ ((by rw [hg];exact Nat.ne_of_lt (blk_lt (g:=gb133) (o:=.cells #[.slice A0_0 l0_0.length c0_0,.slice A0_1 l0_1.length c0_1] 25 (0,0)) (by (with_reducible repeat (first|refine blk_drewN ?_ _|refine blk_drew ?_|refine blk_alloc ?_ _));exact BK133.out)) : gb133≠gb134));have n6_:=A_ ((by rw [hg];exact Nat.ne_of_gt (blk_lt (g:=gb133) (o:=.cells #[.slice A0_0 l0_0.length c0_0,.slice A0_1 l0_1.length c0_1] 25 (0,0)) (by (with_reducible repeat (first|refine blk_drewN ?_ _|refine blk_drew ?_|refine blk_alloc ?_ _));exact BK133.out)) : gb134≠gb133));clear BK133;clear HB;have BK133:=n0_;have HB:=n1_;have BK134:=n2_;have GW134:=n3_;have GE134:=n4_;have NB133_134:=n5_;have NB134_133:=n6_;clear n0_ n1_ n2_ n3_ n4_ n5_ n6_;clear hb hbox hg;have hnb10:=NB133_134.out;have hnc10:=NB134_133.out;have hcz11_0 : w9.cell? ⟨gb133,0,none⟩ = some (.slice A0_0 l0_0.length c0_0):=(blk_cell BK133.out 0).trans rfl;have hcz11_1 : w9.cell? ⟨gb133,1,none⟩ = some (.slice A0_1 l0_1.length c0_1):=(blk_cell BK133.out 1).trans rfl;have hfz11_0:=blk_frozen BK133.out 0;have hfz11_1:=blk_frozen BK133.out 1)|((with_reducible refine gate_callee (f:=22) rfl ?_);refine goesL_ (some 11) rfl rfl Try.func22 (by kernel_rfl) rfl #[.agg #[.slice A0_0 l0_0.length c0_0,.slice A0_1 l0_1.length c0_1]] rfl (by (try simp only [List.map_toArray,List.map_cons,List.map_nil]);first|done|rfl|(simp only [List.length_drop,List.length_take];rfl)) ?_;(with_reducible refine (device_copied.calls k _ _ l0_0 _ _ l0_1 t135 t138 _ ?side1 ?side2 ?side3 ?side4 A4.out).mono ?_);(case side1=>repeat (first|exact (cl HR0_0.out HB.out)|(with_reducible refine ca ?_ _)|(with_reducible refine cb ?_ _)|(with_reducible refine cc ?_)));(case side2=>exact HC0_0.out);(case side3=>repeat (first|exact (cl HR0_1.out HB.out)|(with_reducible refine ca ?_ _)|(with_reducible refine cb ?_ _)|(with_reducible refine cc ?_)));(case side4=>exact HC0_1.out);rintro e w12 ⟨v136,v139,rfl,ho0,ho1,hb⟩;refine ⟨_,rfl,?_⟩;have n0_:=A_ (Kd.S_lower ho0 (below_size (by repeat (first|(with_reducible first|exact HB.out|apply ba|apply bb|apply bc|refine below_set ?_ GE133.out|refine below_set ?_ GE134.out)|exact HB.out))));have n1_:=A_ (Kd.S_lower ho1 (below_size (by repeat (first|(with_reducible first|exact HB.out|apply ba|apply bb|apply bc|refine below_set ?_ GE133.out|refine below_set ?_ GE134.out)|exact HB.out))));have n2_:=A_ (blk_below (g:=gb133) (o:=.cells #[.slice A0_0 l0_0.length c0_0,.slice A0_1 l0_1.length c0_1] 25 (0,0)) (by (with_reducible repeat (first|refine blk_drewN ?_ _|refine blk_drew ?_|refine blk_alloc ?_ _));exact BK133.out) hb);have n3_:=A_ (blk_below (g:=gb134) (o:=.cells #[.slice none 0 0,.slice none 0 0] 25 (0,0)) (by (with_reducible repeat (first|refine blk_drewN ?_ _|refine blk_drew ?_|refine blk_alloc ?_ _));exact BK134.out) hb);have n4_:=A_ (below_step (by repeat (first|(with_reducible first|exact HB.out|apply ba|apply bb|apply bc|refine below_set ?_ GE133.out|refine below_set ?_ GE134.out)|exact HB.out)) hb);clear BK133;clear BK134;clear HB;have HO137:=n0_;have HO140:=n1_;have BK133:=n2_;have BK134:=n3_;have HB:=n4_;clear n0_ n1_ n2_ n3_ n4_;(try clear hb);(try clear hb2);(try clear hk);(try clear hi);(try clear ho0);(try clear ho1))|((with_reducible refine gate_dst (N:=8) rfl ?_);refine box_event ?hg (N:=8) ?hd (cs:=#[.slice none 0 0,.slice none 0 0]) (t:=25) ?hr ?_;(case hd=>rfl);(case hg=>rfl);(case hr=>first|(go_simp;done)|(go_simp;rfl));intro gb141 hg w13 hbox hb;have n0_:=A_ (Kd.S_below (by (with_reducible repeat (first|apply Kd.S_alloc|apply Kd.S_drewN|apply Kd.S_drew));exact HO137.out) hb);have n1_:=A_ (Kd.S_below (by (with_reducible repeat (first|apply Kd.S_alloc|apply Kd.S_drewN|apply Kd.S_drew));exact HO140.out) hb);have n2_:=A_ (blk_below (g:=gb133) (o:=.cells #[.slice A0_0 l0_0.length c0_0,.slice A0_1 l0_1.length c0_1] 25 (0,0)) (by (with_reducible repeat (first|refine blk_drewN ?_ _|refine blk_drew ?_|refine blk_alloc ?_ _));exact BK133.out) hb);have n3_:=A_ (blk_below (g:=gb134) (o:=.cells #[.slice none 0 0,.slice none 0 0] 25 (0,0)) (by (with_reducible repeat (first|refine blk_drewN ?_ _|refine blk_drew ?_|refine blk_alloc ?_ _));exact BK134.out) hb);have n4_:=A_ (below_step (by repeat (first|(with_reducible first|exact HB.out|apply ba|apply bb|apply bc|refine below_set ?_ GE133.out|refine below_set ?_ GE134.out)|exact HB.out)) hb);have n5_:=A_ (hbox);have n6_:=A_ ((by rw [hg];exact (below_size (by repeat (first|(with_reducible first|exact HB.out|apply ba|apply bb|apply bc|refine below_set ?_ GE133.out|refine below_set ?_ GE134.out)|exact HB.out))) : w.heap.size ≤ gb141));have n7_:=A_ ((by rw [hg];exact (below_size (by repeat (first|(with_reducible first|exact HB.out|apply ba|apply bb|apply bc|refine below_set ?_ GE133.out|refine below_set ?_ GE134.out)|exact HB.out))) : w.heap.size ≤ gb141));have n8_:=A_ ((by rw [hg];exact Nat.ne_of_lt (blk_lt (g:=gb133) (o:=.cells #[.slice A0_0 l0_0.length c0_0,.slice A0_1 l0_1.length c0_1] 25 (0,0)) (by (with_reducible repeat (first|refine blk_drewN ?_ _|refine blk_drew ?_|refine blk_alloc ?_ _));exact BK133.out)) : gb133≠gb141));have n9_:=A_ ((by rw [hg];exact Nat.ne_of_gt (blk_lt (g:=gb133) (o:=.cells #[.slice A0_0 l0_0.length c0_0,.slice A0_1 l0_1.length c0_1] 25 (0,0)) (by (with_reducible repeat (first|refine blk_drewN ?_ _|refine blk_drew ?_|refine blk_alloc ?_ _));exact BK133.out)) : gb141≠gb133));have n10_:=A_ ((by rw [hg];exact Nat.ne_of_lt (blk_lt (g:=gb134) (o:=.cells #[.slice none 0 0,.slice none 0 0] 25 (0,0)) (by (with_reducible repeat (first|refine blk_drewN ?_ _|refine blk_drew ?_|refine blk_alloc ?_ _));exact BK134.out)) : gb134≠gb141));have n11_:=A_ ((by rw [hg];exact Nat.ne_of_gt (blk_lt (g:=gb134) (o:=.cells #[.slice none 0 0,.slice none 0 0] 25 (0,0)) (by (with_reducible repeat (first|refine blk_drewN ?_ _|refine blk_drew ?_|refine blk_alloc ?_ _));exact BK134.out)) : gb141≠gb134));clear HO137;clear HO140;clear BK133;clear BK134;clear HB;have HO137:=n0_;have HO140:=n1_;have BK133:=n2_;have BK134:=n3_;have HB:=n4_;have BK141:=n5_;have GW141:=n6_;have GE141:=n7_;have NB133_141:=n8_;have NB141_133:=n9_;have NB134_141:=n10_;have NB141_134:=n11_;clear n0_ n1_ n2_ n3_ n4_ n5_ n6_ n7_ n8_ n9_ n10_ n11_;clear hb hbox hg;obtain ⟨Ao14,co14,eo14⟩:=Kd.S_slice HO137.out;subst eo14;have hnb15:=NB141_133.out;have hnc15:=NB133_141.out;have hnb16:=NB141_134.out;have hnc16:=NB134_141.out;have hcz17_0 : w13.cell? ⟨gb141,0,none⟩ = some (.slice none 0 0):=(blk_cell BK141.out 0).trans rfl;have hcz17_1 : w13.cell? ⟨gb141,1,none⟩ = some (.slice none 0 0):=(blk_cell BK141.out 1).trans rfl;have hfz17_0:=blk_frozen BK141.out 0;have hfz17_1:=blk_frozen BK141.out 1;obtain ⟨Ao18,co18,eo18⟩:=Kd.S_slice HO140.out;subst eo18;have hcz19_0 : w13.cell? ⟨gb133,0,none⟩ = some (.slice A0_0 l0_0.length c0_0):=(blk_cell BK133.out 0).trans rfl;have hcz19_1 : w13.cell? ⟨gb133,1,none⟩ = some (.slice A0_1 l0_1.length c0_1):=(blk_cell BK133.out 1).trans rfl;have hfz19_0:=blk_frozen BK133.out 0;have hfz19_1:=blk_frozen BK133.out 1)|((with_reducible refine gate_callee (f:=23) rfl ?_);refine goesL_ (some 14) rfl rfl Try.func23 (by kernel_rfl) rfl #[.agg #[.slice A0_0 l0_0.length c0_0,.slice A0_1 l0_1.length c0_1],.int .i64 a1] rfl (by (try simp only [List.map_toArray,List.map_cons,List.map_nil]);first|done|rfl|(simp only [List.length_drop,List.length_take];rfl)) ?_;(with_reducible refine (device_checked.calls k _ _ l0_0 _ _ l0_1 a1 t142 _ ?side1 ?side2 ?side3 ?side4 A5.out).mono ?_);(case side1=>exact cl HR0_0.out (by repeat (first|(with_reducible first|exact HB.out|apply ba|apply bb|apply bc|refine below_set ?_ GE133.out|refine below_set ?_ GE134.out|refine below_set ?_ GE141.out)|exact HB.out)));(case side2=>exact HC0_0.out);(case side3=>exact cl HR0_1.out (by repeat (first|(with_reducible first|exact HB.out|apply ba|apply bb|apply bc|refine below_set ?_ GE133.out|refine below_set ?_ GE134.out|refine below_set ?_ GE141.out)|exact HB.out)));(case side4=>exact HC0_1.out);rintro e w20 ⟨rfl,hb⟩;refine ⟨_,rfl,?_⟩;have n0_:=A_ (Kd.S_below (by (with_reducible repeat (first|apply Kd.S_alloc|apply Kd.S_drewN|apply Kd.S_drew));exact (Kd.S_mono (Kd.S_far (p:=⟨gb141,1,none⟩) (Kd.S_far (p:=⟨gb141,0,none⟩) (Kd.S_types HO137.out BK141.out (by decide)) (fun _ hk=>hk.2) (.slice Ao14 t135.length co14)) (fun _ hk=>hk.2) (.slice Ao18 t138.length co18)) (fun _ h_=>h_.1))) hb);have n1_:=A_ (Kd.S_below (by (with_reducible repeat (first|apply Kd.S_alloc|apply Kd.S_drewN|apply Kd.S_drew));exact (Kd.S_mono (Kd.S_far (p:=⟨gb141,1,none⟩) (Kd.S_far (p:=⟨gb141,0,none⟩) (Kd.S_types HO140.out BK141.out (by decide)) (fun _ hk=>hk.2) (.slice Ao14 t135.length co14)) (fun _ hk=>hk.2) (.slice Ao18 t138.length co18)) (fun _ h_=>h_.1))) hb);have n2_:=A_ (blk_below (g:=gb133) (o:=.cells #[.slice A0_0 l0_0.length c0_0,.slice A0_1 l0_1.length c0_1] 25 (0,0)) (by (with_reducible repeat (first|refine blk_drewN ?_ _|refine blk_drew ?_|refine blk_alloc ?_ _));refine blk_far ?_ NB133_141.out _;(with_reducible repeat (first|refine blk_drewN ?_ _|refine blk_drew ?_|refine blk_alloc ?_ _));refine blk_far ?_ NB133_141.out _;(with_reducible repeat (first|refine blk_drewN ?_ _|refine blk_drew ?_|refine blk_alloc ?_ _));exact BK133.out) hb);have n3_:=A_ (blk_below (g:=gb134) (o:=.cells #[.slice none 0 0,.slice none 0 0] 25 (0,0)) (by (with_reducible repeat (first|refine blk_drewN ?_ _|refine blk_drew ?_|refine blk_alloc ?_ _));refine blk_far ?_ NB134_141.out _;(with_reducible repeat (first|refine blk_drewN ?_ _|refine blk_drew ?_|refine blk_alloc ?_ _));refine blk_far ?_ NB134_141.out _;(with_reducible repeat (first|refine blk_drewN ?_ _|refine blk_drew ?_|refine blk_alloc ?_ _));exact BK134.out) hb);have n4_:=A_ (blk_below (g:=gb141) (o:=.cells #[.slice Ao14 t135.length co14,.slice Ao18 t138.length co18] 25 (0,0)) (by (with_reducible repeat (first|refine blk_drewN ?_ _|refine blk_drew ?_|refine blk_alloc ?_ _));refine blk_put (cs:=#[.slice Ao14 t135.length co14,.slice none 0 0]) ?_ 1 _ rfl;(with_reducible repeat (first|refine blk_drewN ?_ _|refine blk_drew ?_|refine blk_alloc ?_ _));refine blk_put (cs:=#[.slice none 0 0,.slice none 0 0]) ?_ 0 _ rfl;(with_reducible repeat (first|refine blk_drewN ?_ _|refine blk_drew ?_|refine blk_alloc ?_ _));exact BK141.out) hb);have n5_:=A_ (below_step (by repeat (first|(with_reducible first|exact HB.out|apply ba|apply bb|apply bc|refine below_set ?_ GE133.out|refine below_set ?_ GE134.out|refine below_set ?_ GE141.out)|exact HB.out)) hb);clear HO137;clear HO140;clear BK133;clear BK134;clear BK141;clear HB;have HO137:=n0_;have HO140:=n1_;have BK133:=n2_;have BK134:=n3_;have BK141:=n4_;have HB:=n5_;clear n0_ n1_ n2_ n3_ n4_ n5_;(try clear hb);(try clear hb2);(try clear hk);(try clear hi);have hcz21_0 : w20.cell? ⟨gb141,0,none⟩ = some (.slice Ao14 t135.length co14):=(blk_cell BK141.out 0).trans rfl;have hcz21_1 : w20.cell? ⟨gb141,1,none⟩ = some (.slice Ao18 t138.length co18):=(blk_cell BK141.out 1).trans rfl;have hfz21_0:=blk_frozen BK141.out 0;have hfz21_1:=blk_frozen BK141.out 1;have hcz22_0 : w20.cell? ⟨gb134,0,none⟩ = some (.slice none 0 0):=(blk_cell BK134.out 0).trans rfl;have hcz22_1 : w20.cell? ⟨gb134,1,none⟩ = some (.slice none 0 0):=(blk_cell BK134.out 1).trans rfl;have hfz22_0:=blk_frozen BK134.out 0;have hfz22_1:=blk_frozen BK134.out 1))
   refine bodyPost_ret (results_ct rfl _ _ gb134 25 #[.slice Ao14 t135.length co14,.slice Ao18 t138.length co18] (0,0) _ rfl (by (with_reducible repeat (first|refine blk_drewN ?_ _|refine blk_drew ?_|refine blk_alloc ?_ _));refine blk_put (cs:=#[.slice Ao14 t135.length co14,.slice none 0 0]) ?_ 1 _ rfl;(with_reducible repeat (first|refine blk_drewN ?_ _|refine blk_drew ?_|refine blk_alloc ?_ _));refine blk_put (cs:=#[.slice none 0 0,.slice none 0 0]) ?_ 0 _ rfl;(with_reducible repeat (first|refine blk_drewN ?_ _|refine blk_drew ?_|refine blk_alloc ?_ _));exact BK134.out) Try.underlying25 rfl (by kernel_rfl)) rfl ?_
   exact ⟨_,_,by first|rfl|(simp [errW_none,errW_some] <;> rfl)|(simp [*,errW_none,errW_some] <;> rfl),by (with_reducible repeat (first|apply Kd.S_alloc|apply Kd.S_drewN|apply Kd.S_drew));exact Kd.S_mono (Kd.S_far (p:=⟨gb134,1,none⟩) (Kd.S_far (p:=⟨gb134,0,none⟩) (Kd.S_types HO137.out BK134.out (by decide)) (fun _ hk=>hk.2) (.slice Ao14 t135.length co14)) (fun _ hk=>hk.2) (.slice Ao18 t138.length co18)) (fun _ hk=>trivial),by (with_reducible repeat (first|apply Kd.S_alloc|apply Kd.S_drewN|apply Kd.S_drew));exact Kd.S_mono (Kd.S_far (p:=⟨gb134,1,none⟩) (Kd.S_far (p:=⟨gb134,0,none⟩) (Kd.S_types HO140.out BK134.out (by decide)) (fun _ hk=>hk.2) (.slice Ao14 t135.length co14)) (fun _ hk=>hk.2) (.slice Ao18 t138.length co18)) (fun _ hk=>trivial),by repeat (first|(with_reducible first|exact HB.out|apply ba|apply bb|apply bc|refine below_set ?_ GE133.out|refine below_set ?_ GE134.out|refine below_set ?_ GE141.out)|exact HB.out)⟩
  ·
   rw [if_neg c7] at H
   have c7b0 : decide (64 < (l2.length : Int)) = false:=decide_eq_false c7
   have c7b1 : decide (64 < l2.length) = false:=decide_eq_false (by omega)
   clear c7
   by_cases c23 : (l0_1.length : Int) = 300
   ·
    rw [if_pos c23] at H
    have c23b0 : ((l0_1.length : Int) == 300) = true:=beq_iff_eq.mpr c23
    have c23b1 : ((l0_1.length : Int) != 300) = false:=bne_eq_false_iff_eq.mpr c23
    clear c23
    simp only [Option.some.injEq,Prod.mk.injEq] at H
    obtain ⟨rfl,rfl,rfl⟩:=H
    go_enter Try.func14,Try.ntmps14
    go_wp2_with (first|((with_reducible refine gate_dst (N:=3) rfl ?_);refine box_event ?hg (N:=3) ?hd (cs:=#[.slice A0_0 l0_0.length c0_0,.slice A0_1 l0_1.length c0_1]) (t:=25) ?hr ?_;(case hd=>rfl);(case hg=>rfl);(case hr=>first|(go_simp;done)|(go_simp;rfl));intro gb133 hg w24 hbox hb;have n0_:=A_ (below_step (by repeat (first|(with_reducible first|exact HB.out|apply ba|apply bb|apply bc)|exact HB.out)) hb);have n1_:=A_ (hbox);have n2_:=A_ ((by rw [hg];exact (below_size (by repeat (first|(with_reducible first|exact HB.out|apply ba|apply bb|apply bc)|exact HB.out))) : w.heap.size ≤ gb133));have n3_:=A_ ((by rw [hg];exact (below_size (by repeat (first|(with_reducible first|exact HB.out|apply ba|apply bb|apply bc)|exact HB.out))) : w.heap.size ≤ gb133));clear HB;have HB:=n0_;have BK133:=n1_;have GW133:=n2_;have GE133:=n3_;clear n0_ n1_ n2_ n3_;clear hb hbox hg)|((with_reducible refine gate_dst (N:=6) rfl ?_);refine box_event ?hg (N:=6) ?hd (cs:=#[.slice none 0 0,.slice none 0 0]) (t:=25) ?hr ?_;(case hd=>rfl);(case hg=>rfl);(case hr=>first|(go_simp;done)|(go_simp;rfl));intro gb134 hg w25 hbox hb;have n0_:=A_ (blk_below (g:=gb133) (o:=.cells #[.slice A0_0 l0_0.length c0_0,.slice A0_1 l0_1.length c0_1] 25 (0,0)) (by (with_reducible repeat (first|refine blk_drewN ?_ _|refine blk_drew ?_|refine blk_alloc ?_ _));exact BK133.out) hb);have n1_:=A_ (below_step (by repeat (first|(with_reducible first|exact HB.out|apply ba|apply bb|apply bc|refine below_set ?_ GE133.out)|exact HB.out)) hb);have n2_:=A_ (hbox);have n3_:=A_ ((by rw [hg];exact (below_size (by repeat (first|(with_reducible first|exact HB.out|apply ba|apply bb|apply bc|refine below_set ?_ GE133.out)|exact HB.out))) : w.heap.size ≤ gb134));have n4_:=A_ ((by rw [hg];exact (below_size (by repeat (first|(with_reducible first|exact HB.out|apply ba|apply bb|apply bc|refine below_set ?_ GE133.out)|exact HB.out))) : w.heap.size ≤ gb134));have n5_:=A_ ((by rw [hg];exact Nat.ne_of_lt (blk_lt (g:=gb133) (o:=.cells #[.slice A0_0 l0_0.length c0_0,.slice A0_1 l0_1.length c0_1] 25 (0,0)) (by (with_reducible repeat (first|refine blk_drewN ?_ _|refine blk_drew ?_|refine blk_alloc ?_ _));exact BK133.out)) : gb133≠gb134));have n6_:=A_ ((by rw [hg];exact Nat.ne_of_gt (blk_lt (g:=gb133) (o:=.cells #[.slice A0_0 l0_0.length c0_0,.slice A0_1 l0_1.length c0_1] 25 (0,0)) (by (with_reducible repeat (first|refine blk_drewN ?_ _|refine blk_drew ?_|refine blk_alloc ?_ _));exact BK133.out)) : gb134≠gb133));clear BK133;clear HB;have BK133:=n0_;have HB:=n1_;have BK134:=n2_;have GW134:=n3_;have GE134:=n4_;have NB133_134:=n5_;have NB134_133:=n6_;clear n0_ n1_ n2_ n3_ n4_ n5_ n6_;clear hb hbox hg;have hnb26:=NB133_134.out;have hnc26:=NB134_133.out;have hcz27_0 : w25.cell? ⟨gb133,0,none⟩ = some (.slice A0_0 l0_0.length c0_0):=(blk_cell BK133.out 0).trans rfl;have hcz27_1 : w25.cell? ⟨gb133,1,none⟩ = some (.slice A0_1 l0_1.length c0_1):=(blk_cell BK133.out 1).trans rfl;have hfz27_0:=blk_frozen BK133.out 0;have hfz27_1:=blk_frozen BK133.out 1)|((with_reducible refine gate_callee (f:=22) rfl ?_);refine goesL_ (some 11) rfl rfl Try.func22 (by kernel_rfl) rfl #[.agg #[.slice A0_0 l0_0.length c0_0,.slice A0_1 l0_1.length c0_1]] rfl (by (try simp only [List.map_toArray,List.map_cons,List.map_nil]);first|done|rfl|(simp only [List.length_drop,List.length_take];rfl)) ?_;(with_reducible refine (device_copied.calls k _ _ l0_0 _ _ l0_1 t135 t138 _ ?side1 ?side2 ?side3 ?side4 A4.out).mono ?_);(case side1=>repeat (first|exact (cl HR0_0.out HB.out)|(with_reducible refine ca ?_ _)|(with_reducible refine cb ?_ _)|(with_reducible refine cc ?_)));(case side2=>exact HC0_0.out);(case side3=>repeat (first|exact (cl HR0_1.out HB.out)|(with_reducible refine ca ?_ _)|(with_reducible refine cb ?_ _)|(with_reducible refine cc ?_)));(case side4=>exact HC0_1.out);rintro e w28 ⟨v136,v139,rfl,ho0,ho1,hb⟩;refine ⟨_,rfl,?_⟩;have n0_:=A_ (Kd.S_lower ho0 (below_size (by repeat (first|(with_reducible first|exact HB.out|apply ba|apply bb|apply bc|refine below_set ?_ GE133.out|refine below_set ?_ GE134.out)|exact HB.out))));have n1_:=A_ (Kd.S_lower ho1 (below_size (by repeat (first|(with_reducible first|exact HB.out|apply ba|apply bb|apply bc|refine below_set ?_ GE133.out|refine below_set ?_ GE134.out)|exact HB.out))));have n2_:=A_ (blk_below (g:=gb133) (o:=.cells #[.slice A0_0 l0_0.length c0_0,.slice A0_1 l0_1.length c0_1] 25 (0,0)) (by (with_reducible repeat (first|refine blk_drewN ?_ _|refine blk_drew ?_|refine blk_alloc ?_ _));exact BK133.out) hb);have n3_:=A_ (blk_below (g:=gb134) (o:=.cells #[.slice none 0 0,.slice none 0 0] 25 (0,0)) (by (with_reducible repeat (first|refine blk_drewN ?_ _|refine blk_drew ?_|refine blk_alloc ?_ _));exact BK134.out) hb);have n4_:=A_ (below_step (by repeat (first|(with_reducible first|exact HB.out|apply ba|apply bb|apply bc|refine below_set ?_ GE133.out|refine below_set ?_ GE134.out)|exact HB.out)) hb);clear BK133;clear BK134;clear HB;have HO137:=n0_;have HO140:=n1_;have BK133:=n2_;have BK134:=n3_;have HB:=n4_;clear n0_ n1_ n2_ n3_ n4_;(try clear hb);(try clear hb2);(try clear hk);(try clear hi);(try clear ho0);(try clear ho1))|((with_reducible refine gate_dst (N:=8) rfl ?_);refine box_event ?hg (N:=8) ?hd (cs:=#[.slice none 0 0,.slice none 0 0]) (t:=25) ?hr ?_;(case hd=>rfl);(case hg=>rfl);(case hr=>first|(go_simp;done)|(go_simp;rfl));intro gb141 hg w29 hbox hb;have n0_:=A_ (Kd.S_below (by (with_reducible repeat (first|apply Kd.S_alloc|apply Kd.S_drewN|apply Kd.S_drew));exact HO137.out) hb);have n1_:=A_ (Kd.S_below (by (with_reducible repeat (first|apply Kd.S_alloc|apply Kd.S_drewN|apply Kd.S_drew));exact HO140.out) hb);have n2_:=A_ (blk_below (g:=gb133) (o:=.cells #[.slice A0_0 l0_0.length c0_0,.slice A0_1 l0_1.length c0_1] 25 (0,0)) (by (with_reducible repeat (first|refine blk_drewN ?_ _|refine blk_drew ?_|refine blk_alloc ?_ _));exact BK133.out) hb);have n3_:=A_ (blk_below (g:=gb134) (o:=.cells #[.slice none 0 0,.slice none 0 0] 25 (0,0)) (by (with_reducible repeat (first|refine blk_drewN ?_ _|refine blk_drew ?_|refine blk_alloc ?_ _));exact BK134.out) hb);have n4_:=A_ (below_step (by repeat (first|(with_reducible first|exact HB.out|apply ba|apply bb|apply bc|refine below_set ?_ GE133.out|refine below_set ?_ GE134.out)|exact HB.out)) hb);have n5_:=A_ (hbox);have n6_:=A_ ((by rw [hg];exact (below_size (by repeat (first|(with_reducible first|exact HB.out|apply ba|apply bb|apply bc|refine below_set ?_ GE133.out|refine below_set ?_ GE134.out)|exact HB.out))) : w.heap.size ≤ gb141));have n7_:=A_ ((by rw [hg];exact (below_size (by repeat (first|(with_reducible first|exact HB.out|apply ba|apply bb|apply bc|refine below_set ?_ GE133.out|refine below_set ?_ GE134.out)|exact HB.out))) : w.heap.size ≤ gb141));have n8_:=A_ ((by rw [hg];exact Nat.ne_of_lt (blk_lt (g:=gb133) (o:=.cells #[.slice A0_0 l0_0.length c0_0,.slice A0_1 l0_1.length c0_1] 25 (0,0)) (by (with_reducible repeat (first|refine blk_drewN ?_ _|refine blk_drew ?_|refine blk_alloc ?_ _));exact BK133.out)) : gb133≠gb141));have n9_:=A_ ((by rw [hg];exact Nat.ne_of_gt (blk_lt (g:=gb133) (o:=.cells #[.slice A0_0 l0_0.length c0_0,.slice A0_1 l0_1.length c0_1] 25 (0,0)) (by (with_reducible repeat (first|refine blk_drewN ?_ _|refine blk_drew ?_|refine blk_alloc ?_ _));exact BK133.out)) : gb141≠gb133));have n10_:=A_ ((by rw [hg];exact Nat.ne_of_lt (blk_lt (g:=gb134) (o:=.cells #[.slice none 0 0,.slice none 0 0] 25 (0,0)) (by (with_reducible repeat (first|refine blk_drewN ?_ _|refine blk_drew ?_|refine blk_alloc ?_ _));exact BK134.out)) : gb134≠gb141));have n11_:=A_ ((by rw [hg];exact Nat.ne_of_gt (blk_lt (g:=gb134) (o:=.cells #[.slice none 0 0,.slice none 0 0] 25 (0,0)) (by (with_reducible repeat (first|refine blk_drewN ?_ _|refine blk_drew ?_|refine blk_alloc ?_ _));exact BK134.out)) : gb141≠gb134));clear HO137;clear HO140;clear BK133;clear BK134;clear HB;have HO137:=n0_;have HO140:=n1_;have BK133:=n2_;have BK134:=n3_;have HB:=n4_;have BK141:=n5_;have GW141:=n6_;have GE141:=n7_;have NB133_141:=n8_;have NB141_133:=n9_;have NB134_141:=n10_;have NB141_134:=n11_;clear n0_ n1_ n2_ n3_ n4_ n5_ n6_ n7_ n8_ n9_ n10_ n11_;clear hb hbox hg;obtain ⟨Ao30,co30,eo30⟩:=Kd.S_slice HO137.out;subst eo30;have hnb31:=NB141_133.out;have hnc31:=NB133_141.out;have hnb32:=NB141_134.out;have hnc32:=NB134_141.out;have hcz33_0 : w29.cell? ⟨gb141,0,none⟩ = some (.slice none 0 0):=(blk_cell BK141.out 0).trans rfl;have hcz33_1 : w29.cell? ⟨gb141,1,none⟩ = some (.slice none 0 0):=(blk_cell BK141.out 1).trans rfl;have hfz33_0:=blk_frozen BK141.out 0;have hfz33_1:=blk_frozen BK141.out 1;obtain ⟨Ao34,co34,eo34⟩:=Kd.S_slice HO140.out;subst eo34;have hcz35_0 : w29.cell? ⟨gb133,0,none⟩ = some (.slice A0_0 l0_0.length c0_0):=(blk_cell BK133.out 0).trans rfl;have hcz35_1 : w29.cell? ⟨gb133,1,none⟩ = some (.slice A0_1 l0_1.length c0_1):=(blk_cell BK133.out 1).trans rfl;have hfz35_0:=blk_frozen BK133.out 0;have hfz35_1:=blk_frozen BK133.out 1)|((with_reducible refine gate_callee (f:=23) rfl ?_);refine goesL_ (some 14) rfl rfl Try.func23 (by kernel_rfl) rfl #[.agg #[.slice A0_0 l0_0.length c0_0,.slice A0_1 l0_1.length c0_1],.int .i64 a1] rfl (by (try simp only [List.map_toArray,List.map_cons,List.map_nil]);first|done|rfl|(simp only [List.length_drop,List.length_take];rfl)) ?_;(with_reducible refine (device_checked.calls k _ _ l0_0 _ _ l0_1 a1 t142 _ ?side1 ?side2 ?side3 ?side4 A5.out).mono ?_);(case side1=>exact cl HR0_0.out (by repeat (first|(with_reducible first|exact HB.out|apply ba|apply bb|apply bc|refine below_set ?_ GE133.out|refine below_set ?_ GE134.out|refine below_set ?_ GE141.out)|exact HB.out)));(case side2=>exact HC0_0.out);(case side3=>exact cl HR0_1.out (by repeat (first|(with_reducible first|exact HB.out|apply ba|apply bb|apply bc|refine below_set ?_ GE133.out|refine below_set ?_ GE134.out|refine below_set ?_ GE141.out)|exact HB.out)));(case side4=>exact HC0_1.out);rintro e w36 ⟨rfl,hb⟩;refine ⟨_,rfl,?_⟩;have n0_:=A_ (Kd.S_below (by (with_reducible repeat (first|apply Kd.S_alloc|apply Kd.S_drewN|apply Kd.S_drew));exact (Kd.S_mono (Kd.S_far (p:=⟨gb141,1,none⟩) (Kd.S_far (p:=⟨gb141,0,none⟩) (Kd.S_types HO137.out BK141.out (by decide)) (fun _ hk=>hk.2) (.slice Ao30 t135.length co30)) (fun _ hk=>hk.2) (.slice Ao34 t138.length co34)) (fun _ h_=>h_.1))) hb);have n1_:=A_ (Kd.S_below (by (with_reducible repeat (first|apply Kd.S_alloc|apply Kd.S_drewN|apply Kd.S_drew));exact (Kd.S_mono (Kd.S_far (p:=⟨gb141,1,none⟩) (Kd.S_far (p:=⟨gb141,0,none⟩) (Kd.S_types HO140.out BK141.out (by decide)) (fun _ hk=>hk.2) (.slice Ao30 t135.length co30)) (fun _ hk=>hk.2) (.slice Ao34 t138.length co34)) (fun _ h_=>h_.1))) hb);have n2_:=A_ (blk_below (g:=gb133) (o:=.cells #[.slice A0_0 l0_0.length c0_0,.slice A0_1 l0_1.length c0_1] 25 (0,0)) (by (with_reducible repeat (first|refine blk_drewN ?_ _|refine blk_drew ?_|refine blk_alloc ?_ _));refine blk_far ?_ NB133_141.out _;(with_reducible repeat (first|refine blk_drewN ?_ _|refine blk_drew ?_|refine blk_alloc ?_ _));refine blk_far ?_ NB133_141.out _;(with_reducible repeat (first|refine blk_drewN ?_ _|refine blk_drew ?_|refine blk_alloc ?_ _));exact BK133.out) hb);have n3_:=A_ (blk_below (g:=gb134) (o:=.cells #[.slice none 0 0,.slice none 0 0] 25 (0,0)) (by (with_reducible repeat (first|refine blk_drewN ?_ _|refine blk_drew ?_|refine blk_alloc ?_ _));refine blk_far ?_ NB134_141.out _;(with_reducible repeat (first|refine blk_drewN ?_ _|refine blk_drew ?_|refine blk_alloc ?_ _));refine blk_far ?_ NB134_141.out _;(with_reducible repeat (first|refine blk_drewN ?_ _|refine blk_drew ?_|refine blk_alloc ?_ _));exact BK134.out) hb);have n4_:=A_ (blk_below (g:=gb141) (o:=.cells #[.slice Ao30 t135.length co30,.slice Ao34 t138.length co34] 25 (0,0)) (by (with_reducible repeat (first|refine blk_drewN ?_ _|refine blk_drew ?_|refine blk_alloc ?_ _));refine blk_put (cs:=#[.slice Ao30 t135.length co30,.slice none 0 0]) ?_ 1 _ rfl;(with_reducible repeat (first|refine blk_drewN ?_ _|refine blk_drew ?_|refine blk_alloc ?_ _));refine blk_put (cs:=#[.slice none 0 0,.slice none 0 0]) ?_ 0 _ rfl;(with_reducible repeat (first|refine blk_drewN ?_ _|refine blk_drew ?_|refine blk_alloc ?_ _));exact BK141.out) hb);have n5_:=A_ (below_step (by repeat (first|(with_reducible first|exact HB.out|apply ba|apply bb|apply bc|refine below_set ?_ GE133.out|refine below_set ?_ GE134.out|refine below_set ?_ GE141.out)|exact HB.out)) hb);clear HO137;clear HO140;clear BK133;clear BK134;clear BK141;clear HB;have HO137:=n0_;have HO140:=n1_;have BK133:=n2_;have BK134:=n3_;have BK141:=n4_;have HB:=n5_;clear n0_ n1_ n2_ n3_ n4_ n5_;(try clear hb);(try clear hb2);(try clear hk);(try clear hi);have hcz37_0 : w36.cell? ⟨gb133,0,none⟩ = some (.slice A0_0 l0_0.length c0_0):=(blk_cell BK133.out 0).trans rfl;have hcz37_1 : w36.cell? ⟨gb133,1,none⟩ = some (.slice A0_1 l0_1.length c0_1):=(blk_cell BK133.out 1).trans rfl;have hfz37_0:=blk_frozen BK133.out 0;have hfz37_1:=blk_frozen BK133.out 1;have hcz38_0 : w36.cell? ⟨gb141,0,none⟩ = some (.slice Ao30 t135.length co30):=(blk_cell BK141.out 0).trans rfl;have hcz38_1 : w36.cell? ⟨gb141,1,none⟩ = some (.slice Ao34 t138.length co34):=(blk_cell BK141.out 1).trans rfl;have hfz38_0:=blk_frozen BK141.out 0;have hfz38_1:=blk_frozen BK141.out 1;have hcz39_0 : w36.cell? ⟨gb134,0,none⟩ = some (.slice none 0 0):=(blk_cell BK134.out 0).trans rfl;have hcz39_1 : w36.cell? ⟨gb134,1,none⟩ = some (.slice none 0 0):=(blk_cell BK134.out 1).trans rfl;have hfz39_0:=blk_frozen BK134.out 0;have hfz39_1:=blk_frozen BK134.out 1))
    refine bodyPost_ret (results_ct rfl _ _ gb134 25 #[.slice Ao30 t135.length co30,.slice Ao34 t138.length co34] (0,0) _ rfl (by (with_reducible repeat (first|refine blk_drewN ?_ _|refine blk_drew ?_|refine blk_alloc ?_ _));refine blk_put (cs:=#[.slice Ao30 t135.length co30,.slice none 0 0]) ?_ 1 _ rfl;(with_reducible repeat (first|refine blk_drewN ?_ _|refine blk_drew ?_|refine blk_alloc ?_ _));refine blk_put (cs:=#[.slice none 0 0,.slice none 0 0]) ?_ 0 _ rfl;(with_reducible repeat (first|refine blk_drewN ?_ _|refine blk_drew ?_|refine blk_alloc ?_ _));exact BK134.out) Try.underlying25 rfl (by kernel_rfl)) rfl ?_
    exact ⟨_,_,by first|rfl|(simp [errW_none,errW_some] <;> rfl)|(simp [*,errW_none,errW_some] <;> rfl),by (with_reducible repeat (first|apply Kd.S_alloc|apply Kd.S_drewN|apply Kd.S_drew));exact Kd.S_mono (Kd.S_far (p:=⟨gb134,1,none⟩) (Kd.S_far (p:=⟨gb134,0,none⟩) (Kd.S_types HO137.out BK134.out (by decide)) (fun _ hk=>hk.2) (.slice Ao30 t135.length co30)) (fun _ hk=>hk.2) (.slice Ao34 t138.length co34)) (fun _ hk=>trivial),by (with_reducible repeat (first|apply Kd.S_alloc|apply Kd.S_drewN|apply Kd.S_drew));exact Kd.S_mono (Kd.S_far (p:=⟨gb134,1,none⟩) (Kd.S_far (p:=⟨gb134,0,none⟩) (Kd.S_types HO140.out BK134.out (by decide)) (fun _ hk=>hk.2) (.slice Ao30 t135.length co30)) (fun _ hk=>hk.2) (.slice Ao34 t138.length co34)) (fun _ hk=>trivial),by repeat (first|(with_reducible first|exact HB.out|apply ba|apply bb|apply bc|refine below_set ?_ GE133.out|refine below_set ?_ GE134.out|refine below_set ?_ GE141.out)|exact HB.out)⟩
   ·
    rw [if_neg c23] at H
    have c23b0 : ((l0_1.length : Int) == 300) = false:=beq_eq_false_iff_ne.mpr c23
    have c23b1 : ((l0_1.length : Int) != 300) = true:=bne_iff_ne.mpr c23
    replace H:=Option.bind_eq_some_iff.mp H
    obtain ⟨t143,A400,H⟩:=H
    replace H : (if t138.length < 4398046511104 then (some (t135,(t138 ++ [(⟨a1,t143⟩ : S42)]),0)) else (none)) = some (r1,r2,r3):=H
    have A40:=A_ A400
    clear A400
    by_cases c41 : t138.length < 4398046511104
    ·
     rw [if_pos c41] at H
     have LMc41:=A_ c41
     clear c41
     obtain ⟨y146,hy146⟩ : ∃ y_ : List (S42),y_ = (t138 ++ [(⟨a1,t143⟩ : S42)]):=⟨_,rfl⟩
     replace H : (some (t135,y146,0)) = some (r1,r2,r3):=by first|(rw [hy146];with_reducible exact H)|(have H2_:=(Option.bind_some _ _).symm.trans H;rw [hy146];with_reducible exact H2_)|(have H2_:=(Option.bind_some _ _).symm.trans H;with_reducible exact H2_)|with_reducible exact H|(rw [hy146];exact H)|exact H
     have Ny146:=A_ hy146
     clear hy146
     simp only [Option.some.injEq,Prod.mk.injEq] at H
     obtain ⟨rfl,rfl,rfl⟩:=H
     go_enter Try.func14,Try.ntmps14
     try go_wp2_with (first|((with_reducible refine gate_dst (N:=3) rfl ?_);refine box_event ?hg (N:=3) ?hd (cs:=#[.slice A0_0 l0_0.length c0_0,.slice A0_1 l0_1.length c0_1]) (t:=25) ?hr ?_;(case hd=>rfl);(case hg=>rfl);(case hr=>first|(go_simp;done)|(go_simp;rfl));intro gb133 hg w42 hbox hb;have n0_:=A_ (below_step (by repeat (first|(with_reducible first|exact HB.out|apply ba|apply bb|apply bc)|exact HB.out)) hb);have n1_:=A_ (hbox);have n2_:=A_ ((by rw [hg];exact (below_size (by repeat (first|(with_reducible first|exact HB.out|apply ba|apply bb|apply bc)|exact HB.out))) : w.heap.size ≤ gb133));have n3_:=A_ ((by rw [hg];exact (below_size (by repeat (first|(with_reducible first|exact HB.out|apply ba|apply bb|apply bc)|exact HB.out))) : w.heap.size ≤ gb133));clear HB;have HB:=n0_;have BK133:=n1_;have GW133:=n2_;have GE133:=n3_;clear n0_ n1_ n2_ n3_;clear hb hbox hg)|((with_reducible refine gate_dst (N:=6) rfl ?_);refine box_event ?hg (N:=6) ?hd (cs:=#[.slice none 0 0,.slice none 0 0]) (t:=25) ?hr ?_;(case hd=>rfl);(case hg=>rfl);(case hr=>first|(go_simp;done)|(go_simp;rfl));intro gb134 hg w43 hbox hb;have n0_:=A_ (blk_below (g:=gb133) (o:=.cells #[.slice A0_0 l0_0.length c0_0,.slice A0_1 l0_1.length c0_1] 25 (0,0)) (by (with_reducible repeat (first|refine blk_drewN ?_ _|refine blk_drew ?_|refine blk_alloc ?_ _));exact BK133.out) hb);have n1_:=A_ (below_step (by repeat (first|(with_reducible first|exact HB.out|apply ba|apply bb|apply bc|refine below_set ?_ GE133.out)|exact HB.out)) hb);have n2_:=A_ (hbox);have n3_:=A_ ((by rw [hg];exact (below_size (by repeat (first|(with_reducible first|exact HB.out|apply ba|apply bb|apply bc|refine below_set ?_ GE133.out)|exact HB.out))) : w.heap.size ≤ gb134));have n4_:=A_ ((by rw [hg];exact (below_size (by repeat (first|(with_reducible first|exact HB.out|apply ba|apply bb|apply bc|refine below_set ?_ GE133.out)|exact HB.out))) : w.heap.size ≤ gb134));have n5_:=A_ ((by rw [hg];exact Nat.ne_of_lt (blk_lt (g:=gb133) (o:=.cells #[.slice A0_0 l0_0.length c0_0,.slice A0_1 l0_1.length c0_1] 25 (0,0)) (by (with_reducible repeat (first|refine blk_drewN ?_ _|refine blk_drew ?_|refine blk_alloc ?_ _));exact BK133.out)) : gb133≠gb134));have n6_:=A_ ((by rw [hg];exact Nat.ne_of_gt (blk_lt (g:=gb133) (o:=.cells #[.slice A0_0 l0_0.length c0_0,.slice A0_1 l0_1.length c0_1] 25 (0,0)) (by (with_reducible repeat (first|refine blk_drewN ?_ _|refine blk_drew ?_|refine blk_alloc ?_ _));exact BK133.out)) : gb134≠gb133));clear BK133;clear HB;have BK133:=n0_;have HB:=n1_;have BK134:=n2_;have GW134:=n3_;have GE134:=n4_;have NB133_134:=n5_;have NB134_133:=n6_;clear n0_ n1_ n2_ n3_ n4_ n5_ n6_;clear hb hbox hg;have hnb44:=NB133_134.out;have hnc44:=NB134_133.out;have hcz45_0 : w43.cell? ⟨gb133,0,none⟩ = some (.slice A0_0 l0_0.length c0_0):=(blk_cell BK133.out 0).trans rfl;have hcz45_1 : w43.cell? ⟨gb133,1,none⟩ = some (.slice A0_1 l0_1.length c0_1):=(blk_cell BK133.out 1).trans rfl;have hfz45_0:=blk_frozen BK133.out 0;have hfz45_1:=blk_frozen BK133.out 1)|((with_reducible refine gate_callee (f:=22) rfl ?_);refine goesL_ (some 11) rfl rfl Try.func22 (by kernel_rfl) rfl #[.agg #[.slice A0_0 l0_0.length c0_0,.slice A0_1 l0_1.length c0_1]] rfl (by (try simp only [List.map_toArray,List.map_cons,List.map_nil]);first|done|rfl|(simp only [List.length_drop,List.length_take];rfl)) ?_;(with_reducible refine (device_copied.calls k _ _ l0_0 _ _ l0_1 t135 t138 _ ?side1 ?side2 ?side3 ?side4 A4.out).mono ?_);(case side1=>repeat (first|exact (cl HR0_0.out HB.out)|(with_reducible refine ca ?_ _)|(with_reducible refine cb ?_ _)|(with_reducible refine cc ?_)));(case side2=>exact HC0_0.out);(case side3=>repeat (first|exact (cl HR0_1.out HB.out)|(with_reducible refine ca ?_ _)|(with_reducible refine cb ?_ _)|(with_reducible refine cc ?_)));(case side4=>exact HC0_1.out);rintro e w46 ⟨v136,v139,rfl,ho0,ho1,hb⟩;refine ⟨_,rfl,?_⟩;have n0_:=A_ (Kd.S_lower ho0 (below_size (by repeat (first|(with_reducible first|exact HB.out|apply ba|apply bb|apply bc|refine below_set ?_ GE133.out|refine below_set ?_ GE134.out)|exact HB.out))));have n1_:=A_ (Kd.S_lower ho1 (below_size (by repeat (first|(with_reducible first|exact HB.out|apply ba|apply bb|apply bc|refine below_set ?_ GE133.out|refine below_set ?_ GE134.out)|exact HB.out))));have n2_:=A_ (blk_below (g:=gb133) (o:=.cells #[.slice A0_0 l0_0.length c0_0,.slice A0_1 l0_1.length c0_1] 25 (0,0)) (by (with_reducible repeat (first|refine blk_drewN ?_ _|refine blk_drew ?_|refine blk_alloc ?_ _));exact BK133.out) hb);have n3_:=A_ (blk_below (g:=gb134) (o:=.cells #[.slice none 0 0,.slice none 0 0] 25 (0,0)) (by (with_reducible repeat (first|refine blk_drewN ?_ _|refine blk_drew ?_|refine blk_alloc ?_ _));exact BK134.out) hb);have n4_:=A_ (below_step (by repeat (first|(with_reducible first|exact HB.out|apply ba|apply bb|apply bc|refine below_set ?_ GE133.out|refine below_set ?_ GE134.out)|exact HB.out)) hb);clear BK133;clear BK134;clear HB;have HO137:=n0_;have HO140:=n1_;have BK133:=n2_;have BK134:=n3_;have HB:=n4_;clear n0_ n1_ n2_ n3_ n4_;(try clear hb);(try clear hb2);(try clear hk);(try clear hi);(try clear ho0);(try clear ho1))|((with_reducible refine gate_dst (N:=8) rfl ?_);refine box_event ?hg (N:=8) ?hd (cs:=#[.slice none 0 0,.slice none 0 0]) (t:=25) ?hr ?_;(case hd=>rfl);(case hg=>rfl);(case hr=>first|(go_simp;done)|(go_simp;rfl));intro gb141 hg w47 hbox hb;have n0_:=A_ (Kd.S_below (by (with_reducible repeat (first|apply Kd.S_alloc|apply Kd.S_drewN|apply Kd.S_drew));exact HO137.out) hb);have n1_:=A_ (Kd.S_below (by (with_reducible repeat (first|apply Kd.S_alloc|apply Kd.S_drewN|apply Kd.S_drew));exact HO140.out) hb);have n2_:=A_ (blk_below (g:=gb133) (o:=.cells #[.slice A0_0 l0_0.length c0_0,.slice A0_1 l0_1.length c0_1] 25 (0,0)) (by (with_reducible repeat (first|refine blk_drewN ?_ _|refine blk_drew ?_|refine blk_alloc ?_ _));exact BK133.out) hb);have n3_:=A_ (blk_below (g:=gb134) (o:=.cells #[.slice none 0 0,.slice none 0 0] 25 (0,0)) (by (with_reducible repeat (first|refine blk_drewN ?_ _|refine blk_drew ?_|refine blk_alloc ?_ _));exact BK134.out) hb);have n4_:=A_ (below_step (by repeat (first|(with_reducible first|exact HB.out|apply ba|apply bb|apply bc|refine below_set ?_ GE133.out|refine below_set ?_ GE134.out)|exact HB.out)) hb);have n5_:=A_ (hbox);have n6_:=A_ ((by rw [hg];exact (below_size (by repeat (first|(with_reducible first|exact HB.out|apply ba|apply bb|apply bc|refine below_set ?_ GE133.out|refine below_set ?_ GE134.out)|exact HB.out))) : w.heap.size ≤ gb141));have n7_:=A_ ((by rw [hg];exact (below_size (by repeat (first|(with_reducible first|exact HB.out|apply ba|apply bb|apply bc|refine below_set ?_ GE133.out|refine below_set ?_ GE134.out)|exact HB.out))) : w.heap.size ≤ gb141));have n8_:=A_ ((by rw [hg];exact Nat.ne_of_lt (blk_lt (g:=gb133) (o:=.cells #[.slice A0_0 l0_0.length c0_0,.slice A0_1 l0_1.length c0_1] 25 (0,0)) (by (with_reducible repeat (first|refine blk_drewN ?_ _|refine blk_drew ?_|refine blk_alloc ?_ _));exact BK133.out)) : gb133≠gb141));have n9_:=A_ ((by rw [hg];exact Nat.ne_of_gt (blk_lt (g:=gb133) (o:=.cells #[.slice A0_0 l0_0.length c0_0,.slice A0_1 l0_1.length c0_1] 25 (0,0)) (by (with_reducible repeat (first|refine blk_drewN ?_ _|refine blk_drew ?_|refine blk_alloc ?_ _));exact BK133.out)) : gb141≠gb133));have n10_:=A_ ((by rw [hg];exact Nat.ne_of_lt (blk_lt (g:=gb134) (o:=.cells #[.slice none 0 0,.slice none 0 0] 25 (0,0)) (by (with_reducible repeat (first|refine blk_drewN ?_ _|refine blk_drew ?_|refine blk_alloc ?_ _));exact BK134.out)) : gb134≠gb141));have n11_:=A_ ((by rw [hg];exact Nat.ne_of_gt (blk_lt (g:=gb134) (o:=.cells #[.slice none 0 0,.slice none 0 0] 25 (0,0)) (by (with_reducible repeat (first|refine blk_drewN ?_ _|refine blk_drew ?_|refine blk_alloc ?_ _));exact BK134.out)) : gb141≠gb134));clear HO137;clear HO140;clear BK133;clear BK134;clear HB;have HO137:=n0_;have HO140:=n1_;have BK133:=n2_;have BK134:=n3_;have HB:=n4_;have BK141:=n5_;have GW141:=n6_;have GE141:=n7_;have NB133_141:=n8_;have NB141_133:=n9_;have NB134_141:=n10_;have NB141_134:=n11_;clear n0_ n1_ n2_ n3_ n4_ n5_ n6_ n7_ n8_ n9_ n10_ n11_;clear hb hbox hg;obtain ⟨Ao48,co48,eo48⟩:=Kd.S_slice HO137.out;subst eo48;have hnb49:=NB141_133.out;have hnc49:=NB133_141.out;have hnb50:=NB141_134.out;have hnc50:=NB134_141.out;have hcz51_0 : w47.cell? ⟨gb141,0,none⟩ = some (.slice none 0 0):=(blk_cell BK141.out 0).trans rfl;have hcz51_1 : w47.cell? ⟨gb141,1,none⟩ = some (.slice none 0 0):=(blk_cell BK141.out 1).trans rfl;have hfz51_0:=blk_frozen BK141.out 0;have hfz51_1:=blk_frozen BK141.out 1;obtain ⟨Ao52,co52,eo52⟩:=Kd.S_slice HO140.out;subst eo52;have hcz53_0 : w47.cell? ⟨gb133,0,none⟩ = some (.slice A0_0 l0_0.length c0_0):=(blk_cell BK133.out 0).trans rfl;have hcz53_1 : w47.cell? ⟨gb133,1,none⟩ = some (.slice A0_1 l0_1.length c0_1):=(blk_cell BK133.out 1).trans rfl;have hfz53_0:=blk_frozen BK133.out 0;have hfz53_1:=blk_frozen BK133.out 1)|((with_reducible refine gate_callee (f:=23) rfl ?_);refine goesL_ (some 14) rfl rfl Try.func23 (by kernel_rfl) rfl #[.agg #[.slice A0_0 l0_0.length c0_0,.slice A0_1 l0_1.length c0_1],.int .i64 a1] rfl (by (try simp only [List.map_toArray,List.map_cons,List.map_nil]);first|done|rfl|(simp only [List.length_drop,List.length_take];rfl)) ?_;(with_reducible refine (device_checked.calls k _ _ l0_0 _ _ l0_1 a1 t142 _ ?side1 ?side2 ?side3 ?side4 A5.out).mono ?_);(case side1=>exact cl HR0_0.out (by repeat (first|(with_reducible first|exact HB.out|apply ba|apply bb|apply bc|refine below_set ?_ GE133.out|refine below_set ?_ GE134.out|refine below_set ?_ GE141.out)|exact HB.out)));(case side2=>exact HC0_0.out);(case side3=>exact cl HR0_1.out (by repeat (first|(with_reducible first|exact HB.out|apply ba|apply bb|apply bc|refine below_set ?_ GE133.out|refine below_set ?_ GE134.out|refine below_set ?_ GE141.out)|exact HB.out)));(case side4=>exact HC0_1.out);rintro e w54 ⟨rfl,hb⟩;refine ⟨_,rfl,?_⟩;have n0_:=A_ (Kd.S_below (by (with_reducible repeat (first|apply Kd.S_alloc|apply Kd.S_drewN|apply Kd.S_drew));exact (Kd.S_mono (Kd.S_far (p:=⟨gb141,1,none⟩) (Kd.S_far (p:=⟨gb141,0,none⟩) (Kd.S_types HO137.out BK141.out (by decide)) (fun _ hk=>hk.2) (.slice Ao48 t135.length co48)) (fun _ hk=>hk.2) (.slice Ao52 t138.length co52)) (fun _ h_=>h_.1))) hb);have n1_:=A_ (Kd.S_below (by (with_reducible repeat (first|apply Kd.S_alloc|apply Kd.S_drewN|apply Kd.S_drew));exact (Kd.S_mono (Kd.S_far (p:=⟨gb141,1,none⟩) (Kd.S_far (p:=⟨gb141,0,none⟩) (Kd.S_types HO140.out BK141.out (by decide)) (fun _ hk=>hk.2) (.slice Ao48 t135.length co48)) (fun _ hk=>hk.2) (.slice Ao52 t138.length co52)) (fun _ h_=>h_.1))) hb);have n2_:=A_ (blk_below (g:=gb133) (o:=.cells #[.slice A0_0 l0_0.length c0_0,.slice A0_1 l0_1.length c0_1] 25 (0,0)) (by (with_reducible repeat (first|refine blk_drewN ?_ _|refine blk_drew ?_|refine blk_alloc ?_ _));refine blk_far ?_ NB133_141.out _;(with_reducible repeat (first|refine blk_drewN ?_ _|refine blk_drew ?_|refine blk_alloc ?_ _));refine blk_far ?_ NB133_141.out _;(with_reducible repeat (first|refine blk_drewN ?_ _|refine blk_drew ?_|refine blk_alloc ?_ _));exact BK133.out) hb);have n3_:=A_ (blk_below (g:=gb134) (o:=.cells #[.slice none 0 0,.slice none 0 0] 25 (0,0)) (by (with_reducible repeat (first|refine blk_drewN ?_ _|refine blk_drew ?_|refine blk_alloc ?_ _));refine blk_far ?_ NB134_141.out _;(with_reducible repeat (first|refine blk_drewN ?_ _|refine blk_drew ?_|refine blk_alloc ?_ _));refine blk_far ?_ NB134_141.out _;(with_reducible repeat (first|refine blk_drewN ?_ _|refine blk_drew ?_|refine blk_alloc ?_ _));exact BK134.out) hb);have n4_:=A_ (blk_below (g:=gb141) (o:=.cells #[.slice Ao48 t135.length co48,.slice Ao52 t138.length co52] 25 (0,0)) (by (with_reducible repeat (first|refine blk_drewN ?_ _|refine blk_drew ?_|refine blk_alloc ?_ _));refine blk_put (cs:=#[.slice Ao48 t135.length co48,.slice none 0 0]) ?_ 1 _ rfl;(with_reducible repeat (first|refine blk_drewN ?_ _|refine blk_drew ?_|refine blk_alloc ?_ _));refine blk_put (cs:=#[.slice none 0 0,.slice none 0 0]) ?_ 0 _ rfl;(with_reducible repeat (first|refine blk_drewN ?_ _|refine blk_drew ?_|refine blk_alloc ?_ _));exact BK141.out) hb);have n5_:=A_ (below_step (by repeat (first|(with_reducible first|exact HB.out|apply ba|apply bb|apply bc|refine below_set ?_ GE133.out|refine below_set ?_ GE134.out|refine below_set ?_ GE141.out)|exact HB.out)) hb);clear HO137;clear HO140;clear BK133;clear BK134;clear BK141;clear HB;have HO137:=n0_;have HO140:=n1_;have BK133:=n2_;have BK134:=n3_;have BK141:=n4_;have HB:=n5_;clear n0_ n1_ n2_ n3_ n4_ n5_;(try clear hb);(try clear hb2);(try clear hk);(try clear hi);have hcz55_0 : w54.cell? ⟨gb133,0,none⟩ = some (.slice A0_0 l0_0.length c0_0):=(blk_cell BK133.out 0).trans rfl;have hcz55_1 : w54.cell? ⟨gb133,1,none⟩ = some (.slice A0_1 l0_1.length c0_1):=(blk_cell BK133.out 1).trans rfl;have hfz55_0:=blk_frozen BK133.out 0;have hfz55_1:=blk_frozen BK133.out 1))
     have n0_:=A_ (Kd.S_drew HO137.out)
     have n1_:=A_ (Kd.S_drew HO140.out)
     have n2_:=A_ (blk_drew BK133.out)
     have n3_:=A_ (blk_drew BK134.out)
     have n4_:=A_ (blk_drew BK141.out)
     have n5_:=A_ (below_drew1 HB.out)
     clear HO137
     clear HO140
     clear BK133
     clear BK134
     clear BK141
     clear HB
     have HO137:=n0_
     have HO140:=n1_
     have BK133:=n2_
     have BK134:=n3_
     have BK141:=n4_
     have HB:=n5_
     clear n0_ n1_ n2_ n3_ n4_ n5_
     refine start_ (n:=10) (S:=fun w'=>w'.cell? ⟨gb141,0,none⟩ = some (.slice Ao48 t135.length co48)∧w'.cell? ⟨gb141,1,none⟩ = some (.slice Ao52 t138.length co52)) (ds:=[9]) #[false,false,false,false,false,false,false,false,false,false] (by kernel_rfl) rfl rfl ⟨(blk_cell BK141.out 0).trans rfl,(blk_cell BK141.out 1).trans rfl⟩ (fun hHeld=>?_);refine with_tabW device_Write.tab9 device_Write.bits9 (fun HT_ HW_=>?_)
     generalize w54.drew = w56 at HO137 HO140 BK133 BK134 BK141 HB hHeld ⊢
     refine pure_ (i:=0) (N:=some 31) (v:=?_) (a':=?_) #[true,false,false,false,false,false,false,false,false,false] rfl rfl (any_of HT_.out (by kernel_rfl)) (fun _ _ _ h=>h) (Or.inl ⟨by rfl,?_⟩) ?_ ?_
     rotate_left
     ·
      intro w'
      go_simp
      with_reducible rfl
     rotate_left
     ·
      simp only [Act.put,sa,sb,sc,i64_w,i32_w]
      rfl
     refine pure_ (i:=2) (N:=some 33) (v:=?_) (a':=?_) #[true,false,true,false,false,false,false,false,false,false] rfl rfl (any_of HT_.out (by kernel_rfl)) (fun _ _ _ h=>h) (Or.inl ⟨by rfl,?_⟩) ?_ ?_
     rotate_left
     ·
      intro w'
      go_simp
      with_reducible rfl
     rotate_left
     ·
      simp only [Act.put,sa,sb,sc,i64_w,i32_w]
      rfl
     refine pure_ (i:=3) (N:=some 34) (v:=?_) (a':=?_) #[true,false,true,true,false,false,false,false,false,false] rfl rfl (any_of HT_.out (by kernel_rfl)) (fun _ _ _ h=>h) (Or.inl ⟨by rfl,?_⟩) ?_ ?_
     rotate_left
     ·
      intro w'
      go_simp
      with_reducible rfl
     rotate_left
     ·
      simp only [Act.put,sa,sb,sc,i64_w,i32_w]
      rfl
     refine take_ (i:=1) (N:=some 32) (v:=?_) (a':=?_) #[true,true,true,true,false,false,false,false,false,false] rfl rfl (take_ofW HT_.out HW_.out (by kernel_rfl)) (fun _ _ _ h=>h) (Or.inl ⟨by rfl,?_⟩) hHeld ?_ ?_
     rotate_left
     ·
      rintro w' ⟨s0,s1⟩
      go_simp
      with_reducible rfl
     rotate_left
     ·
      simp only [Act.put,sa,sb,sc,i64_w,i32_w]
      rfl
     refine one_ (i:=4) (N:=some 35) #[true,true,true,true,true,false,false,false,false,false] rfl rfl (one_of HT_.out (by kernel_rfl)) (by decide) (fun K hK=>?_)
     refine goes_ Try.func24 (by kernel_rfl) rfl #[.slice A2 l2.length c2,.int .i64 64] (by rfl) rfl rfl (by (try simp only [List.map_toArray,List.map_cons,List.map_nil]);first|done|rfl|(simp only [List.length_drop,List.length_take];rfl)) ?_
     with_reducible refine (device_padded.calls _ _ l2 64 t143 _ ?side1 ?side2 A40.out).mono ?_
     (case side1=>repeat (first|exact (cl HR2.out HB.out)|(with_reducible refine ca ?_ _)|(with_reducible refine cb ?_ _)|(with_reducible refine cc ?_)))
     (case side2=>exact HC2.out)
     rintro e w57 ⟨v144,rfl,ho0,hb⟩
     refine ⟨_,rfl,?_⟩
     have n0_:=A_ (Kd.S_elder' (by (with_reducible repeat (first|apply Kd.S_alloc|apply Kd.S_drewN|apply Kd.S_drew));exact HO137.out) (rs ho0) hb)
     have n1_:=A_ (Kd.S_elder' (by (with_reducible repeat (first|apply Kd.S_alloc|apply Kd.S_drewN|apply Kd.S_drew));exact HO140.out) (rs ho0) hb)
     have n2_:=A_ (Kd.R_lower ho0 (below_size (by repeat (first|(with_reducible first|exact HB.out|apply ba|apply bb|apply bc|refine below_set ?_ GE133.out|refine below_set ?_ GE134.out|refine below_set ?_ GE141.out)|exact HB.out))))
     have n3_:=A_ (blk_below (g:=gb133) (o:=.cells #[.slice A0_0 l0_0.length c0_0,.slice A0_1 l0_1.length c0_1] 25 (0,0)) (by (with_reducible repeat (first|refine blk_drewN ?_ _|refine blk_drew ?_|refine blk_alloc ?_ _));exact BK133.out) hb)
     have n4_:=A_ (blk_below (g:=gb134) (o:=.cells #[.slice none 0 0,.slice none 0 0] 25 (0,0)) (by (with_reducible repeat (first|refine blk_drewN ?_ _|refine blk_drew ?_|refine blk_alloc ?_ _));exact BK134.out) hb)
     have n5_:=A_ (blk_below (g:=gb141) (o:=.cells #[.slice Ao48 t135.length co48,.slice Ao52 t138.length co52] 25 (0,0)) (by (with_reducible repeat (first|refine blk_drewN ?_ _|refine blk_drew ?_|refine blk_alloc ?_ _));exact BK141.out) hb)
     have n6_:=A_ (below_step (by repeat (first|(with_reducible first|exact HB.out|apply ba|apply bb|apply bc|refine below_set ?_ GE133.out|refine below_set ?_ GE134.out|refine below_set ?_ GE141.out)|exact HB.out)) hb)
     clear HO137
     clear HO140
     clear BK133
     clear BK134
     clear BK141
     clear HB
     have HO137:=n0_
     have HO140:=n1_
     have HO145:=n2_
     have BK133:=n3_
     have BK134:=n4_
     have BK141:=n5_
     have HB:=n6_
     clear n0_ n1_ n2_ n3_ n4_ n5_ n6_
     (try clear hb)
     (try clear hb2)
     (try clear hk)
     (try clear hi)
     (try clear ho0)
     obtain ⟨Ao58,co58,eo58⟩:=Kd.R_slice HO145.out
     (first|subst eo58|(injection eo58 with f1_ f2_ f3_;have f4_:=f1_.symm;have f5_:=f3_.symm;clear f1_ f2_ f3_;subst f4_;subst f5_))
     refine hK.out _ _ ⟨(blk_cell BK141.out 0).trans rfl,(blk_cell BK141.out 1).trans rfl⟩ (fun hHeld=>?_)
     clear hK K
     refine norm_ (a':=?_) ?_ ?_
     rotate_left
     ·
      show Act.put _ (some 35) _ = _
      simp only [Act.put,sa,sb,sc,i64_w,i32_w]
      rfl
     refine pure_ (i:=5) (N:=some 36) (v:=?_) (a':=?_) #[true,true,true,true,true,true,false,false,false,false] rfl rfl (any_of HT_.out (by kernel_rfl)) (fun _ _ _ h=>h) (Or.inl ⟨by rfl,?_⟩) ?_ ?_
     rotate_left
     ·
      intro w'
      go_simp
      with_reducible rfl
     rotate_left
     ·
      simp only [Act.put,sa,sb,sc,i64_w,i32_w]
      rfl
     refine one_ (i:=6) (N:=some 37) #[true,true,true,true,true,true,true,false,false,false] rfl rfl (one_of HT_.out (by kernel_rfl)) (by decide) (fun K hK=>?_)
     refine value_ (w1:=?_) (v:=?_) (by rfl) rfl ?_ ?_
     rotate_left 2
     ·
      go_simp
      constructor
      ·
       rfl
      ·
       rfl
     refine hK.out _ _ ⟨(blk_cell (blk_alloc BK141.out _) 0).trans rfl,(blk_cell (blk_alloc BK141.out _) 1).trans rfl⟩ (fun hHeld=>?_)
     clear hK K
     refine norm_ (a':=?_) ?_ ?_
     rotate_left
     ·
      show Act.put _ (some 37) _ = _
      simp only [Act.put,sa,sb,sc,i64_w,i32_w]
      rfl
     refine one_ (i:=7) (N:=some 38) #[true,true,true,true,true,true,true,true,false,false] rfl rfl (one_of HT_.out (by kernel_rfl)) (by decide) (fun K hK=>?_)
     refine Kd.S_append_step k42 (w0:=w) w.heap.size (by rfl) (.tmp 32) (.tmp 37) 23 42 (.agg #[(.int .i64 0),(.slice none 0 0)]) 32 rfl Try.underlying23 info42 rfl (by decide) (by omega) (.slice Ao52 t138.length co52) t138 (⟨a1,t143⟩ : S42) [.int .i64 a1,.slice Ao58 t143.length co58] (fun _=>True) (fun k_=>some k_ = (.slice Ao58 t143.length co58 : Value).ownBlock) rfl rfl ?aP (fun k_ hk_=>((rm (ok':=fun k_=>((fun _=>True)) k_∧nb k_ (.slice Ao52 t138.length co52)) (Kd.R_apart' (HO145.out) (Kd.S_typed HO140.out) (by decide)) (fun k_ hk=>⟨trivial,hk.2⟩))).1 k_ hk_.symm) ?aF ?aO ?aB ?aS ?aL ?_
     (case aP=>exact k42_mkM _ _ _ (⟨a1,t143⟩ : S42) (rm (Kd.R_tight rfl (rm (ok':=fun k_=>((fun _=>True)) k_∧nb k_ (.slice Ao52 t138.length co52)) (Kd.R_apart' (HO145.out) (Kd.S_typed HO140.out) (by decide)) (fun k_ hk=>⟨trivial,hk.2⟩))) (fun _ h_=>h_)))
     (case aB=>exact (by repeat (first|(with_reducible first|exact HB.out|apply ba|apply bb|apply bc|refine below_set ?_ GE133.out|refine below_set ?_ GE134.out|refine below_set ?_ GE141.out)|exact HB.out)))
     (case aF=>exact (fun _ _=>trivial))
     (case aO=>exact (by (with_reducible repeat (first|apply Kd.S_alloc|apply Kd.S_drewN|apply Kd.S_drew));exact Kd.S_mono HO140.out (fun k_ hk=>⟨trivial,fun e_=>hk.2 e_⟩)))
     (case aS=>exact (below_size (by repeat (first|(with_reducible first|exact HB.out|apply ba|apply bb|apply bc|refine below_set ?_ GE133.out|refine below_set ?_ GE134.out|refine below_set ?_ GE141.out)|exact HB.out))))
     (case aL=>have:=LMc41.out;omega)
     intro v147 w59 ho hb hg hat
     rw [← Ny146.out] at ho
     have n0_:=A_ (blk_grown (g:=gb133) (o:=.cells #[.slice A0_0 l0_0.length c0_0,.slice A0_1 l0_1.length c0_1] 25 (0,0)) (by (with_reducible repeat (first|refine blk_drewN ?_ _|refine blk_drew ?_|refine blk_alloc ?_ _));exact BK133.out) hg (Kd.S_ne HO140.out BK133.out (by decide)))
     have n1_:=A_ (blk_grown (g:=gb134) (o:=.cells #[.slice none 0 0,.slice none 0 0] 25 (0,0)) (by (with_reducible repeat (first|refine blk_drewN ?_ _|refine blk_drew ?_|refine blk_alloc ?_ _));exact BK134.out) hg (Kd.S_ne HO140.out BK134.out (by decide)))
     have n2_:=A_ (Kd.S_over' (by (with_reducible repeat (first|apply Kd.S_alloc|apply Kd.S_drewN|apply Kd.S_drew));exact HO137.out) (Kd.S_typed (by (with_reducible repeat (first|apply Kd.S_alloc|apply Kd.S_drewN|apply Kd.S_drew));exact HO140.out)) (by decide) hg)
     have n3_:=A_ (blk_grown (g:=gb141) (o:=.cells #[.slice Ao48 t135.length co48,.slice Ao52 t138.length co52] 25 (0,0)) (by (with_reducible repeat (first|refine blk_drewN ?_ _|refine blk_drew ?_|refine blk_alloc ?_ _));exact BK141.out) hg (Kd.S_ne HO140.out BK141.out (by decide)))
     have n4_:=A_ (hb)
     have n5_:=A_ (ho)
     clear BK133
     clear BK134
     clear HO137
     clear BK141
     clear HB
     clear HO140
     clear HO145
     have BK133:=n0_
     have BK134:=n1_
     have HO137:=n2_
     have BK141:=n3_
     have HB:=n4_
     have HO148:=n5_
     clear n0_ n1_ n2_ n3_ n4_ n5_
     clear ho hb hg hat
     obtain ⟨Ao60,co60,eo60⟩:=Kd.S_slice HO148.out
     (first|subst eo60|(injection eo60 with f1_ f2_ f3_;have f4_:=f1_.symm;have f5_:=f3_.symm;clear f1_ f2_ f3_;subst f4_;subst f5_))
     refine hK.out _ _ ⟨(blk_cell BK141.out 0).trans rfl,(blk_cell BK141.out 1).trans rfl⟩ (fun hHeld=>?_)
     clear hK K
     refine norm_ (a':=?_) ?_ ?_
     rotate_left
     ·
      show Act.put _ (some 38) _ = _
      simp only [Act.put,sa,sb,sc,i64_w,i32_w]
      rfl
     refine pure_ (i:=8) (N:=some 39) (v:=?_) (a':=?_) #[true,true,true,true,true,true,true,true,true,false] rfl rfl (any_of HT_.out (by kernel_rfl)) (fun _ _ _ h=>h) (Or.inl ⟨by rfl,?_⟩) ?_ ?_
     rotate_left
     ·
      intro w'
      go_simp
      with_reducible rfl
     rotate_left
     ·
      simp only [Act.put,sa,sb,sc,i64_w,i32_w]
      rfl
     refine last_ (i:=9) (N:=none) #[true,true,true,true,true,true,true,true,true,true] rfl rfl (one_of HT_.out (by kernel_rfl)) (by decide) (fun K hK=>?_)
     have hs61 : w59.cell? ⟨gb141,1,none⟩ = some (.slice Ao52 t138.length co52):=(blk_cell BK141.out 1).trans rfl
     have hfs61:=blk_frozen BK141.out 1
     have hns61_0:=NB133_141.out
     have hns61_1:=NB134_141.out
     have hms61_0:=NB141_133.out
     have hms61_1:=NB141_134.out
     refine skip_ (w1:=?_) (by rfl) rfl ?_ ?_
     rotate_left
     ·
      go_simp
      rfl
     refine hK.out _ _ ?_
     clear hK K
     refine done_ (done_of HT_.out (by kernel_rfl)) ?_
     have hcz62_0 : w59.cell? ⟨gb141,0,none⟩ = some (.slice Ao48 t135.length co48):=(blk_cell BK141.out 0).trans rfl
     have hcz62_1 : w59.cell? ⟨gb141,1,none⟩ = some (.slice Ao52 t138.length co52):=(blk_cell BK141.out 1).trans rfl
     have hfz62_0:=blk_frozen BK141.out 0
     have hfz62_1:=blk_frozen BK141.out 1
     have hcz63_0 : w59.cell? ⟨gb134,0,none⟩ = some (.slice none 0 0):=(blk_cell BK134.out 0).trans rfl
     have hcz63_1 : w59.cell? ⟨gb134,1,none⟩ = some (.slice none 0 0):=(blk_cell BK134.out 1).trans rfl
     have hfz63_0:=blk_frozen BK134.out 0
     have hfz63_1:=blk_frozen BK134.out 1
     try go_wp2
     refine bodyPost_ret (results_ct rfl _ _ gb134 25 #[.slice Ao48 t135.length co48,.slice Ao60 y146.length co60] (0,0) _ rfl (by (with_reducible repeat (first|refine blk_drewN ?_ _|refine blk_drew ?_|refine blk_alloc ?_ _));refine blk_put (cs:=#[.slice Ao48 t135.length co48,.slice none 0 0]) ?_ 1 _ rfl;(with_reducible repeat (first|refine blk_drewN ?_ _|refine blk_drew ?_|refine blk_alloc ?_ _));refine blk_put (cs:=#[.slice none 0 0,.slice none 0 0]) ?_ 0 _ rfl;(with_reducible repeat (first|refine blk_drewN ?_ _|refine blk_drew ?_|refine blk_alloc ?_ _));refine blk_far ?_ NB134_141.out _;(with_reducible repeat (first|refine blk_drewN ?_ _|refine blk_drew ?_|refine blk_alloc ?_ _));exact BK134.out) Try.underlying25 rfl (by kernel_rfl)) rfl ?_
     exact ⟨_,_,by first|rfl|(simp [errW_none,errW_some] <;> rfl)|(simp [*,errW_none,errW_some] <;> rfl),by (with_reducible repeat (first|apply Kd.S_alloc|apply Kd.S_drewN|apply Kd.S_drew));exact Kd.S_mono (Kd.S_far (p:=⟨gb134,1,none⟩) (Kd.S_far (p:=⟨gb134,0,none⟩) (Kd.S_far (p:=⟨gb141,1,none⟩) (Kd.S_types (Kd.S_types HO137.out BK141.out (by decide)) BK134.out (by decide)) (fun _ hk=>hk.1.2) (.slice Ao60 y146.length co60)) (fun _ hk=>hk.2) (.slice Ao48 t135.length co48)) (fun _ hk=>hk.2) (.slice Ao60 y146.length co60)) (fun _ hk=>trivial),by (with_reducible repeat (first|apply Kd.S_alloc|apply Kd.S_drewN|apply Kd.S_drew));exact Kd.S_mono (Kd.S_far (p:=⟨gb134,1,none⟩) (Kd.S_far (p:=⟨gb134,0,none⟩) (Kd.S_far (p:=⟨gb141,1,none⟩) (Kd.S_types (Kd.S_types HO148.out BK141.out (by decide)) BK134.out (by decide)) (fun _ hk=>hk.1.2) (.slice Ao60 y146.length co60)) (fun _ hk=>hk.2) (.slice Ao48 t135.length co48)) (fun _ hk=>hk.2) (.slice Ao60 y146.length co60)) (fun _ hk=>trivial),by repeat (first|(with_reducible first|exact HB.out|apply ba|apply bb|apply bc|refine below_set ?_ GE133.out|refine below_set ?_ GE134.out|refine below_set ?_ GE141.out)|exact HB.out)⟩
    ·
     rw [if_neg c41] at H
     exact absurd H (by simp)
 ·
  rw [if_neg c6] at H
  have c6b0 : (t142 == 0) = false:=beq_eq_false_iff_ne.mpr c6
  have c6b1 : (t142 != 0) = true:=bne_iff_ne.mpr c6
  simp only [Option.some.injEq,Prod.mk.injEq] at H
  obtain ⟨rfl,rfl,rfl⟩:=H
  go_enter Try.func14,Try.ntmps14
  go_wp2_with (first|((with_reducible refine gate_dst (N:=3) rfl ?_);refine box_event ?hg (N:=3) ?hd (cs:=#[.slice A0_0 l0_0.length c0_0,.slice A0_1 l0_1.length c0_1]) (t:=25) ?hr ?_;(case hd=>rfl);(case hg=>rfl);(case hr=>first|(go_simp;done)|(go_simp;rfl));intro gb133 hg w64 hbox hb;have n0_:=A_ (below_step (by repeat (first|(with_reducible first|exact HB.out|apply ba|apply bb|apply bc)|exact HB.out)) hb);have n1_:=A_ (hbox);have n2_:=A_ ((by rw [hg];exact (below_size (by repeat (first|(with_reducible first|exact HB.out|apply ba|apply bb|apply bc)|exact HB.out))) : w.heap.size ≤ gb133));have n3_:=A_ ((by rw [hg];exact (below_size (by repeat (first|(with_reducible first|exact HB.out|apply ba|apply bb|apply bc)|exact HB.out))) : w.heap.size ≤ gb133));clear HB;have HB:=n0_;have BK133:=n1_;have GW133:=n2_;have GE133:=n3_;clear n0_ n1_ n2_ n3_;clear hb hbox hg)|((with_reducible refine gate_dst (N:=6) rfl ?_);refine box_event ?hg (N:=6) ?hd (cs:=#[.slice none 0 0,.slice none 0 0]) (t:=25) ?hr ?_;(case hd=>rfl);(case hg=>rfl);(case hr=>first|(go_simp;done)|(go_simp;rfl));intro gb134 hg w65 hbox hb;have n0_:=A_ (blk_below (g:=gb133) (o:=.cells #[.slice A0_0 l0_0.length c0_0,.slice A0_1 l0_1.length c0_1] 25 (0,0)) (by (with_reducible repeat (first|refine blk_drewN ?_ _|refine blk_drew ?_|refine blk_alloc ?_ _));exact BK133.out) hb);have n1_:=A_ (below_step (by repeat (first|(with_reducible first|exact HB.out|apply ba|apply bb|apply bc|refine below_set ?_ GE133.out)|exact HB.out)) hb);have n2_:=A_ (hbox);have n3_:=A_ ((by rw [hg];exact (below_size (by repeat (first|(with_reducible first|exact HB.out|apply ba|apply bb|apply bc|refine below_set ?_ GE133.out)|exact HB.out))) : w.heap.size ≤ gb134));have n4_:=A_ ((by rw [hg];exact (below_size (by repeat (first|(with_reducible first|exact HB.out|apply ba|apply bb|apply bc|refine below_set ?_ GE133.out)|exact HB.out))) : w.heap.size ≤ gb134));have n5_:=A_ ((by rw [hg];exact Nat.ne_of_lt (blk_lt (g:=gb133) (o:=.cells #[.slice A0_0 l0_0.length c0_0,.slice A0_1 l0_1.length c0_1] 25 (0,0)) (by (with_reducible repeat (first|refine blk_drewN ?_ _|refine blk_drew ?_|refine blk_alloc ?_ _));exact BK133.out)) : gb133≠gb134));have n6_:=A_ ((by rw [hg];exact Nat.ne_of_gt (blk_lt (g:=gb133) (o:=.cells #[.slice A0_0 l0_0.length c0_0,.slice A0_1 l0_1.length c0_1] 25 (0,0)) (by (with_reducible repeat (first|refine blk_drewN ?_ _|refine blk_drew ?_|refine blk_alloc ?_ _));exact BK133.out)) : gb134≠gb133));clear BK133;clear HB;have BK133:=n0_;have HB:=n1_;have BK134:=n2_;have GW134:=n3_;have GE134:=n4_;have NB133_134:=n5_;have NB134_133:=n6_;clear n0_ n1_ n2_ n3_ n4_ n5_ n6_;clear hb hbox hg;have hnb66:=NB133_134.out;have hnc66:=NB134_133.out;have hcz67_0 : w65.cell? ⟨gb133,0,none⟩ = some (.slice A0_0 l0_0.length c0_0):=(blk_cell BK133.out 0).trans rfl;have hcz67_1 : w65.cell? ⟨gb133,1,none⟩ = some (.slice A0_1 l0_1.length c0_1):=(blk_cell BK133.out 1).trans rfl;have hfz67_0:=blk_frozen BK133.out 0;have hfz67_1:=blk_frozen BK133.out 1)|((with_reducible refine gate_callee (f:=22) rfl ?_);refine goesL_ (some 11) rfl rfl Try.func22 (by kernel_rfl) rfl #[.agg #[.slice A0_0 l0_0.length c0_0,.slice A0_1 l0_1.length c0_1]] rfl (by (try simp only [List.map_toArray,List.map_cons,List.map_nil]);first|done|rfl|(simp only [List.length_drop,List.length_take];rfl)) ?_;(with_reducible refine (device_copied.calls k _ _ l0_0 _ _ l0_1 t135 t138 _ ?side1 ?side2 ?side3 ?side4 A4.out).mono ?_);(case side1=>repeat (first|exact (cl HR0_0.out HB.out)|(with_reducible refine ca ?_ _)|(with_reducible refine cb ?_ _)|(with_reducible refine cc ?_)));(case side2=>exact HC0_0.out);(case side3=>repeat (first|exact (cl HR0_1.out HB.out)|(with_reducible refine ca ?_ _)|(with_reducible refine cb ?_ _)|(with_reducible refine cc ?_)));(case side4=>exact HC0_1.out);rintro e w68 ⟨v136,v139,rfl,ho0,ho1,hb⟩;refine ⟨_,rfl,?_⟩;have n0_:=A_ (Kd.S_lower ho0 (below_size (by repeat (first|(with_reducible first|exact HB.out|apply ba|apply bb|apply bc|refine below_set ?_ GE133.out|refine below_set ?_ GE134.out)|exact HB.out))));have n1_:=A_ (Kd.S_lower ho1 (below_size (by repeat (first|(with_reducible first|exact HB.out|apply ba|apply bb|apply bc|refine below_set ?_ GE133.out|refine below_set ?_ GE134.out)|exact HB.out))));have n2_:=A_ (blk_below (g:=gb133) (o:=.cells #[.slice A0_0 l0_0.length c0_0,.slice A0_1 l0_1.length c0_1] 25 (0,0)) (by (with_reducible repeat (first|refine blk_drewN ?_ _|refine blk_drew ?_|refine blk_alloc ?_ _));exact BK133.out) hb);have n3_:=A_ (blk_below (g:=gb134) (o:=.cells #[.slice none 0 0,.slice none 0 0] 25 (0,0)) (by (with_reducible repeat (first|refine blk_drewN ?_ _|refine blk_drew ?_|refine blk_alloc ?_ _));exact BK134.out) hb);have n4_:=A_ (below_step (by repeat (first|(with_reducible first|exact HB.out|apply ba|apply bb|apply bc|refine below_set ?_ GE133.out|refine below_set ?_ GE134.out)|exact HB.out)) hb);clear BK133;clear BK134;clear HB;have HO137:=n0_;have HO140:=n1_;have BK133:=n2_;have BK134:=n3_;have HB:=n4_;clear n0_ n1_ n2_ n3_ n4_;(try clear hb);(try clear hb2);(try clear hk);(try clear hi);(try clear ho0);(try clear ho1))|((with_reducible refine gate_dst (N:=8) rfl ?_);refine box_event ?hg (N:=8) ?hd (cs:=#[.slice none 0 0,.slice none 0 0]) (t:=25) ?hr ?_;(case hd=>rfl);(case hg=>rfl);(case hr=>first|(go_simp;done)|(go_simp;rfl));intro gb141 hg w69 hbox hb;have n0_:=A_ (Kd.S_below (by (with_reducible repeat (first|apply Kd.S_alloc|apply Kd.S_drewN|apply Kd.S_drew));exact HO137.out) hb);have n1_:=A_ (Kd.S_below (by (with_reducible repeat (first|apply Kd.S_alloc|apply Kd.S_drewN|apply Kd.S_drew));exact HO140.out) hb);have n2_:=A_ (blk_below (g:=gb133) (o:=.cells #[.slice A0_0 l0_0.length c0_0,.slice A0_1 l0_1.length c0_1] 25 (0,0)) (by (with_reducible repeat (first|refine blk_drewN ?_ _|refine blk_drew ?_|refine blk_alloc ?_ _));exact BK133.out) hb);have n3_:=A_ (blk_below (g:=gb134) (o:=.cells #[.slice none 0 0,.slice none 0 0] 25 (0,0)) (by (with_reducible repeat (first|refine blk_drewN ?_ _|refine blk_drew ?_|refine blk_alloc ?_ _));exact BK134.out) hb);have n4_:=A_ (below_step (by repeat (first|(with_reducible first|exact HB.out|apply ba|apply bb|apply bc|refine below_set ?_ GE133.out|refine below_set ?_ GE134.out)|exact HB.out)) hb);have n5_:=A_ (hbox);have n6_:=A_ ((by rw [hg];exact (below_size (by repeat (first|(with_reducible first|exact HB.out|apply ba|apply bb|apply bc|refine below_set ?_ GE133.out|refine below_set ?_ GE134.out)|exact HB.out))) : w.heap.size ≤ gb141));have n7_:=A_ ((by rw [hg];exact (below_size (by repeat (first|(with_reducible first|exact HB.out|apply ba|apply bb|apply bc|refine below_set ?_ GE133.out|refine below_set ?_ GE134.out)|exact HB.out))) : w.heap.size ≤ gb141));have n8_:=A_ ((by rw [hg];exact Nat.ne_of_lt (blk_lt (g:=gb133) (o:=.cells #[.slice A0_0 l0_0.length c0_0,.slice A0_1 l0_1.length c0_1] 25 (0,0)) (by (with_reducible repeat (first|refine blk_drewN ?_ _|refine blk_drew ?_|refine blk_alloc ?_ _));exact BK133.out)) : gb133≠gb141));have n9_:=A_ ((by rw [hg];exact Nat.ne_of_gt (blk_lt (g:=gb133) (o:=.cells #[.slice A0_0 l0_0.length c0_0,.slice A0_1 l0_1.length c0_1] 25 (0,0)) (by (with_reducible repeat (first|refine blk_drewN ?_ _|refine blk_drew ?_|refine blk_alloc ?_ _));exact BK133.out)) : gb141≠gb133));have n10_:=A_ ((by rw [hg];exact Nat.ne_of_lt (blk_lt (g:=gb134) (o:=.cells #[.slice none 0 0,.slice none 0 0] 25 (0,0)) (by (with_reducible repeat (first|refine blk_drewN ?_ _|refine blk_drew ?_|refine blk_alloc ?_ _));exact BK134.out)) : gb134≠gb141));have n11_:=A_ ((by rw [hg];exact Nat.ne_of_gt (blk_lt (g:=gb134) (o:=.cells #[.slice none 0 0,.slice none 0 0] 25 (0,0)) (by (with_reducible repeat (first|refine blk_drewN ?_ _|refine blk_drew ?_|refine blk_alloc ?_ _));exact BK134.out)) : gb141≠gb134));clear HO137;clear HO140;clear BK133;clear BK134;clear HB;have HO137:=n0_;have HO140:=n1_;have BK133:=n2_;have BK134:=n3_;have HB:=n4_;have BK141:=n5_;have GW141:=n6_;have GE141:=n7_;have NB133_141:=n8_;have NB141_133:=n9_;have NB134_141:=n10_;have NB141_134:=n11_;clear n0_ n1_ n2_ n3_ n4_ n5_ n6_ n7_ n8_ n9_ n10_ n11_;clear hb hbox hg;obtain ⟨Ao70,co70,eo70⟩:=Kd.S_slice HO137.out;subst eo70;have hnb71:=NB141_133.out;have hnc71:=NB133_141.out;have hnb72:=NB141_134.out;have hnc72:=NB134_141.out;have hcz73_0 : w69.cell? ⟨gb141,0,none⟩ = some (.slice none 0 0):=(blk_cell BK141.out 0).trans rfl;have hcz73_1 : w69.cell? ⟨gb141,1,none⟩ = some (.slice none 0 0):=(blk_cell BK141.out 1).trans rfl;have hfz73_0:=blk_frozen BK141.out 0;have hfz73_1:=blk_frozen BK141.out 1;obtain ⟨Ao74,co74,eo74⟩:=Kd.S_slice HO140.out;subst eo74;have hcz75_0 : w69.cell? ⟨gb133,0,none⟩ = some (.slice A0_0 l0_0.length c0_0):=(blk_cell BK133.out 0).trans rfl;have hcz75_1 : w69.cell? ⟨gb133,1,none⟩ = some (.slice A0_1 l0_1.length c0_1):=(blk_cell BK133.out 1).trans rfl;have hfz75_0:=blk_frozen BK133.out 0;have hfz75_1:=blk_frozen BK133.out 1)|((with_reducible refine gate_callee (f:=23) rfl ?_);refine goesL_ (some 14) rfl rfl Try.func23 (by kernel_rfl) rfl #[.agg #[.slice A0_0 l0_0.length c0_0,.slice A0_1 l0_1.length c0_1],.int .i64 a1] rfl (by (try simp only [List.map_toArray,List.map_cons,List.map_nil]);first|done|rfl|(simp only [List.length_drop,List.length_take];rfl)) ?_;(with_reducible refine (device_checked.calls k _ _ l0_0 _ _ l0_1 a1 t142 _ ?side1 ?side2 ?side3 ?side4 A5.out).mono ?_);(case side1=>exact cl HR0_0.out (by repeat (first|(with_reducible first|exact HB.out|apply ba|apply bb|apply bc|refine below_set ?_ GE133.out|refine below_set ?_ GE134.out|refine below_set ?_ GE141.out)|exact HB.out)));(case side2=>exact HC0_0.out);(case side3=>exact cl HR0_1.out (by repeat (first|(with_reducible first|exact HB.out|apply ba|apply bb|apply bc|refine below_set ?_ GE133.out|refine below_set ?_ GE134.out|refine below_set ?_ GE141.out)|exact HB.out)));(case side4=>exact HC0_1.out);rintro e w76 ⟨rfl,hb⟩;refine ⟨_,rfl,?_⟩;have n0_:=A_ (Kd.S_below (by (with_reducible repeat (first|apply Kd.S_alloc|apply Kd.S_drewN|apply Kd.S_drew));exact (Kd.S_mono (Kd.S_far (p:=⟨gb141,1,none⟩) (Kd.S_far (p:=⟨gb141,0,none⟩) (Kd.S_types HO137.out BK141.out (by decide)) (fun _ hk=>hk.2) (.slice Ao70 t135.length co70)) (fun _ hk=>hk.2) (.slice Ao74 t138.length co74)) (fun _ h_=>h_.1))) hb);have n1_:=A_ (Kd.S_below (by (with_reducible repeat (first|apply Kd.S_alloc|apply Kd.S_drewN|apply Kd.S_drew));exact (Kd.S_mono (Kd.S_far (p:=⟨gb141,1,none⟩) (Kd.S_far (p:=⟨gb141,0,none⟩) (Kd.S_types HO140.out BK141.out (by decide)) (fun _ hk=>hk.2) (.slice Ao70 t135.length co70)) (fun _ hk=>hk.2) (.slice Ao74 t138.length co74)) (fun _ h_=>h_.1))) hb);have n2_:=A_ (blk_below (g:=gb133) (o:=.cells #[.slice A0_0 l0_0.length c0_0,.slice A0_1 l0_1.length c0_1] 25 (0,0)) (by (with_reducible repeat (first|refine blk_drewN ?_ _|refine blk_drew ?_|refine blk_alloc ?_ _));refine blk_far ?_ NB133_141.out _;(with_reducible repeat (first|refine blk_drewN ?_ _|refine blk_drew ?_|refine blk_alloc ?_ _));refine blk_far ?_ NB133_141.out _;(with_reducible repeat (first|refine blk_drewN ?_ _|refine blk_drew ?_|refine blk_alloc ?_ _));exact BK133.out) hb);have n3_:=A_ (blk_below (g:=gb134) (o:=.cells #[.slice none 0 0,.slice none 0 0] 25 (0,0)) (by (with_reducible repeat (first|refine blk_drewN ?_ _|refine blk_drew ?_|refine blk_alloc ?_ _));refine blk_far ?_ NB134_141.out _;(with_reducible repeat (first|refine blk_drewN ?_ _|refine blk_drew ?_|refine blk_alloc ?_ _));refine blk_far ?_ NB134_141.out _;(with_reducible repeat (first|refine blk_drewN ?_ _|refine blk_drew ?_|refine blk_alloc ?_ _));exact BK134.out) hb);have n4_:=A_ (blk_below (g:=gb141) (o:=.cells #[.slice Ao70 t135.length co70,.slice Ao74 t138.length co74] 25 (0,0)) (by (with_reducible repeat (first|refine blk_drewN ?_ _|refine blk_drew ?_|refine blk_alloc ?_ _));refine blk_put (cs:=#[.slice Ao70 t135.length co70,.slice none 0 0]) ?_ 1 _ rfl;(with_reducible repeat (first|refine blk_drewN ?_ _|refine blk_drew ?_|refine blk_alloc ?_ _));refine blk_put (cs:=#[.slice none 0 0,.slice none 0 0]) ?_ 0 _ rfl;(with_reducible repeat (first|refine blk_drewN ?_ _|refine blk_drew ?_|refine blk_alloc ?_ _));exact BK141.out) hb);have n5_:=A_ (below_step (by repeat (first|(with_reducible first|exact HB.out|apply ba|apply bb|apply bc|refine below_set ?_ GE133.out|refine below_set ?_ GE134.out|refine below_set ?_ GE141.out)|exact HB.out)) hb);clear HO137;clear HO140;clear BK133;clear BK134;clear BK141;clear HB;have HO137:=n0_;have HO140:=n1_;have BK133:=n2_;have BK134:=n3_;have BK141:=n4_;have HB:=n5_;clear n0_ n1_ n2_ n3_ n4_ n5_;(try clear hb);(try clear hb2);(try clear hk);(try clear hi);have hcz77_0 : w76.cell? ⟨gb141,0,none⟩ = some (.slice Ao70 t135.length co70):=(blk_cell BK141.out 0).trans rfl;have hcz77_1 : w76.cell? ⟨gb141,1,none⟩ = some (.slice Ao74 t138.length co74):=(blk_cell BK141.out 1).trans rfl;have hfz77_0:=blk_frozen BK141.out 0;have hfz77_1:=blk_frozen BK141.out 1;have hcz78_0 : w76.cell? ⟨gb134,0,none⟩ = some (.slice none 0 0):=(blk_cell BK134.out 0).trans rfl;have hcz78_1 : w76.cell? ⟨gb134,1,none⟩ = some (.slice none 0 0):=(blk_cell BK134.out 1).trans rfl;have hfz78_0:=blk_frozen BK134.out 0;have hfz78_1:=blk_frozen BK134.out 1))
  refine bodyPost_ret (results_ct rfl _ _ gb134 25 #[.slice Ao70 t135.length co70,.slice Ao74 t138.length co74] (0,0) _ rfl (by (with_reducible repeat (first|refine blk_drewN ?_ _|refine blk_drew ?_|refine blk_alloc ?_ _));refine blk_put (cs:=#[.slice Ao70 t135.length co70,.slice none 0 0]) ?_ 1 _ rfl;(with_reducible repeat (first|refine blk_drewN ?_ _|refine blk_drew ?_|refine blk_alloc ?_ _));refine blk_put (cs:=#[.slice none 0 0,.slice none 0 0]) ?_ 0 _ rfl;(with_reducible repeat (first|refine blk_drewN ?_ _|refine blk_drew ?_|refine blk_alloc ?_ _));exact BK134.out) Try.underlying25 rfl (by kernel_rfl)) rfl ?_
  exact ⟨_,_,by first|rfl|(simp [errW_none,errW_some] <;> rfl)|(simp [*,errW_none,errW_some] <;> rfl),by (with_reducible repeat (first|apply Kd.S_alloc|apply Kd.S_drewN|apply Kd.S_drew));exact Kd.S_mono (Kd.S_far (p:=⟨gb134,1,none⟩) (Kd.S_far (p:=⟨gb134,0,none⟩) (Kd.S_types HO137.out BK134.out (by decide)) (fun _ hk=>hk.2) (.slice Ao70 t135.length co70)) (fun _ hk=>hk.2) (.slice Ao74 t138.length co74)) (fun _ hk=>trivial),by (with_reducible repeat (first|apply Kd.S_alloc|apply Kd.S_drewN|apply Kd.S_drew));exact Kd.S_mono (Kd.S_far (p:=⟨gb134,1,none⟩) (Kd.S_far (p:=⟨gb134,0,none⟩) (Kd.S_types HO140.out BK134.out (by decide)) (fun _ hk=>hk.2) (.slice Ao70 t135.length co70)) (fun _ hk=>hk.2) (.slice Ao74 t138.length co74)) (fun _ hk=>trivial),by repeat (first|(with_reducible first|exact HB.out|apply ba|apply bb|apply bc|refine below_set ?_ GE133.out|refine below_set ?_ GE134.out|refine below_set ?_ GE141.out)|exact HB.out)⟩

end Go.Proofs.Ythpiafbloebpjaa.PDeviceSteps
