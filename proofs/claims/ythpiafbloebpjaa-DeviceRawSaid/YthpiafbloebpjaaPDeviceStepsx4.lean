/- This file proves, function by function, what the Go functions that one law uses compute; most of it was printed by a program (wip/tools of this session, over the kit's print). -/
import Derived.Test.YthpiafbloebpjaaPDeviceStepsx0
import Derived.Test.YthpiafbloebpjaaPDeviceStepsx1
import Derived.Test.YthpiafbloebpjaaPDeviceStepsx2
import Derived.Test.YthpiafbloebpjaaPDeviceStepsx3
namespace Go.Proofs.Ythpiafbloebpjaa.PDeviceSteps
open Go.RowKit Go.Proofs.YthpiafbloebpjaaW.PrintWords Go.Proofs.YthpiafbloebpjaaW.PrintLast Go.Proofs.YthpiafbloebpjaaW.PrintMore
attribute [local go_sem] max2_int min2_int max_two min_two max_three min_three max_four min_four   -- for this text's walks alone
set_option linter.unusedVariables false
set_option linter.unusedSimpArgs false

/-! ### device_Read: function 16 -/
def device_Read.l0 : Nat → Int → List Int → List (S42) → Int → Int → Option (List Int × Int)
 | 0,_,_,_,_,_=>none
 | k + 1,x1,x7,x22,x23,x24=>if x24 < x23 then (if 0 ≤ x24 then (if x24 < (x22.length : Int) then (if ((rd_T42 x22 x24).f0) = x1 then (device_Read.l0 k x1 ((rd_T42 x22 x24).f1) x22 x23 (wrap64 (x24 + 1))) else (device_Read.l0 k x1 x7 x22 x23 (wrap64 (x24 + 1)))) else (none)) else (none)) else ((device_padded.f x7 64).bind fun t154=>(some (t154,0)))
def device_Read.f (k : Nat) (l0_0 : List (List Int)) (l0_1 : List (S42)) (a1 : Int) : Option (List Int × Int):=(device_checked.f k l0_0 l0_1 a1).bind fun t150=>(if t150 = 0 then (if 0 ≤ a1 then (if a1 < (l0_0.length : Int) then (device_Read.l0 k a1 (rd_L1 l0_0 a1) l0_1 (l0_1.length : Int) 0) else (none)) else (none)) else (some (([] : List Int),t150)))
theorem device_Read.mono_l : ∀ k,(∀ y0 y1 y2 y3 y4,LeO (device_Read.l0 k y0 y1 y2 y3 y4) (device_Read.l0 (k + 1) y0 y1 y2 y3 y4))
 | 0=>fun _ _ _ _ _ r h=>by simp [device_Read.l0] at h
 | k + 1=>by
  have ih0:=device_Read.mono_l k
  ·
   intro y0 y1 y2 y3 y4
   unfold device_Read.l0
   repeat' first
   | (with_reducible exact ih0 _ _ _ _ _)
   | (with_reducible exact device_checked.mono _ _ _ _)
   | (with_reducible exact LeO.refl _)
   | (with_reducible exact LeO.none _)
   | (with_reducible refine LeO.ite ?_ ?_)
   | (with_reducible refine LeO.bind ?_ (fun _=>?_))
   | exact ih0 _ _ _ _ _
   | exact device_checked.mono _ _ _ _
   | exact LeO.none _
   | refine LeO.ite ?_ ?_
   | refine LeO.bind ?_ (fun _=>?_)
theorem device_Read.mono : ∀ a0 a1 a2 k,LeO (device_Read.f k a0 a1 a2) (device_Read.f (k + 1) a0 a1 a2):=by
 intro a0 a1 a2 k
 have ih0:=device_Read.mono_l k
 unfold device_Read.f
 repeat' first
   | (with_reducible exact ih0 _ _ _ _ _)
   | (with_reducible exact device_checked.mono _ _ _ _)
   | (with_reducible exact LeO.refl _)
   | (with_reducible exact LeO.none _)
   | (with_reducible refine LeO.ite ?_ ?_)
   | (with_reducible refine LeO.bind ?_ (fun _=>?_))
   | exact ih0 _ _ _ _ _
   | exact device_checked.mono _ _ _ _
   | exact LeO.none _
   | refine LeO.ite ?_ ?_
   | refine LeO.bind ?_ (fun _=>?_)
set_option maxHeartbeats 8000000 in
set_option maxRecDepth 100000 in
theorem device_Read.calls (k : Nat) (P0_0_ : Nat → Prop) (A0_0 : Option Addr) (c0_0 : Nat) (l0_0 : List (List Int)) (P0_1_ : Nat → Prop) (A0_1 : Option Addr) (c0_1 : Nat) (l0_1 : List (S42)) (a1 : Int) (r1 : List Int) (r2 : Int) (w : World) (hs0_0 : Kd.V (Kd.slice 5 (Kd.int .u8)) 26 w w.heap.size (fun k_=>P0_0_ k_) (.slice A0_0 l0_0.length c0_0) l0_0) (hs0_1 : Kd.V k42 42 w w.heap.size (fun k_=>P0_1_ k_) (.slice A0_1 l0_1.length c0_1) l0_1) (h : device_Read.f k l0_0 l0_1 a1 = some (r1,r2)) :
  Calls Try.prog 16 #[.agg #[.slice A0_0 l0_0.length c0_0,.slice A0_1 l0_1.length c0_1],.int .i64 a1] w fun e w'=>∃ v0_ : Value,e = .returned (.tuple #[v0_,.int .i64 r2])∧Kd.R (Kd.int .u8) 5 w' w.heap.size (fun k_=>(w.heap.size ≤ k_)) v0_ r1∧Below w.heap.size w w':=by
 have hu25:=Try.underlying25
 have hu42:=Try.underlying42
 have HO0_0:=A_ (show Kd.V (Kd.slice 5 (Kd.int .u8)) 26 w w.heap.size (fun k_=>((P0_0_ k_ ∨ P0_1_ k_) ∨ w.heap.size ≤ k_)) (.slice A0_0 l0_0.length c0_0) l0_0 from Kd.V_mono hs0_0 (fun k_ hk=>.inl (.inl hk)))
 have HO0_1:=A_ (show Kd.V k42 42 w w.heap.size (fun k_=>((P0_0_ k_ ∨ P0_1_ k_) ∨ w.heap.size ≤ k_)) (.slice A0_1 l0_1.length c0_1) l0_1 from Kd.V_mono hs0_1 (fun k_ hk=>.inl (.inr hk)))
 have HB:=A_ (Below.refl w.heap.size w)
 have H : ((device_checked.f k l0_0 l0_1 a1).bind fun t150=>(if t150 = 0 then (if 0 ≤ a1 then (if a1 < (l0_0.length : Int) then (device_Read.l0 k a1 (rd_L1 l0_0 a1) l0_1 (l0_1.length : Int) 0) else (none)) else (none)) else (some (([] : List Int),t150)))) = some (r1,r2):=h
 clear h
 replace H:=Option.bind_eq_some_iff.mp H
 obtain ⟨t150,A30,H⟩:=H
 replace H : (if t150 = 0 then (if 0 ≤ a1 then (if a1 < (l0_0.length : Int) then (device_Read.l0 k a1 (rd_L1 l0_0 a1) l0_1 (l0_1.length : Int) 0) else (none)) else (none)) else (some (([] : List Int),t150))) = some (r1,r2):=H
 have A3:=A_ A30
 clear A30
 by_cases c4 : t150 = 0
 ·
  rw [if_pos c4] at H
  have c4b0 : (t150 == 0) = true:=beq_iff_eq.mpr c4
  have c4b1 : (t150 != 0) = false:=bne_eq_false_iff_eq.mpr c4
  clear c4
  by_cases c5 : 0 ≤ a1
  ·
   rw [if_pos c5] at H
   have c5b0 : decide (0 ≤ a1) = true:=decide_eq_true c5
   clear c5
   by_cases c6 : a1 < (l0_0.length : Int)
   ·
    rw [if_pos c6] at H
    have c6b0 : decide (a1 < (l0_0.length : Int)) = true:=decide_eq_true c6
    clear c6
    have H':=A_ H
    clear H
    go_enter Try.func16,Try.ntmps16
    go_wp2_with (first|((with_reducible refine gate_dst (N:=2) rfl ?_);refine box_event ?hg (N:=2) ?hd (cs:=#[.slice A0_0 l0_0.length c0_0,.slice A0_1 l0_1.length c0_1]) (t:=25) ?hr ?_;(case hd=>rfl);(case hg=>rfl);(case hr=>first|(go_simp;done)|(go_simp;rfl));intro gb149 hg w7 hbox hb;have n0_:=A_ (Kd.V_below (Kd.V_elderB (by (with_reducible repeat (first|apply Kd.V_alloc|apply Kd.V_drewN|apply Kd.V_drew));exact HO0_0.out) gb149 (Nat.le_of_eq hg.symm)) hb);have n1_:=A_ (Kd.V_below (Kd.V_elderB (by (with_reducible repeat (first|apply Kd.V_alloc|apply Kd.V_drewN|apply Kd.V_drew));exact HO0_1.out) gb149 (Nat.le_of_eq hg.symm)) hb);have n2_:=A_ (below_step (by repeat (first|(with_reducible first|exact HB.out|apply ba|apply bb|apply bc)|exact HB.out)) hb);have n3_:=A_ (hbox);have n4_:=A_ ((by rw [hg];exact (below_size (by repeat (first|(with_reducible first|exact HB.out|apply ba|apply bb|apply bc)|exact HB.out))) : w.heap.size ≤ gb149));have n5_:=A_ ((by rw [hg];exact (below_size (by repeat (first|(with_reducible first|exact HB.out|apply ba|apply bb|apply bc)|exact HB.out))) : w.heap.size ≤ gb149));clear HO0_0;clear HO0_1;clear HB;have HO0_0:=n0_;have HO0_1:=n1_;have HB:=n2_;have BK149:=n3_;have GW149:=n4_;have GE149:=n5_;clear n0_ n1_ n2_ n3_ n4_ n5_;clear hb hbox hg;have hcz8_0 : w7.cell? ⟨gb149,0,none⟩ = some (.slice A0_0 l0_0.length c0_0):=(blk_cell BK149.out 0).trans rfl;have hcz8_1 : w7.cell? ⟨gb149,1,none⟩ = some (.slice A0_1 l0_1.length c0_1):=(blk_cell BK149.out 1).trans rfl;have hfz8_0:=blk_frozen BK149.out 0;have hfz8_1:=blk_frozen BK149.out 1)|((with_reducible refine gate_callee (f:=23) rfl ?_);refine goesL_ (some 12) rfl rfl Try.func23 (by kernel_rfl) rfl #[.agg #[.slice A0_0 l0_0.length c0_0,.slice A0_1 l0_1.length c0_1],.int .i64 a1] rfl (by (try simp only [List.map_toArray,List.map_cons,List.map_nil]);first|done|rfl|(simp only [List.length_drop,List.length_take];rfl)) ?_;(with_reducible refine (device_checked.calls k _ _ l0_0 _ _ l0_1 a1 t150 _ ?side1 ?side2 ?side3 ?side4 A3.out).mono ?_);(case side1=>repeat (first|exact (Kd.V_reads' HO0_0.out).2.2|(with_reducible refine ca ?_ _)|(with_reducible refine cb ?_ _)|(with_reducible refine cc ?_)));(case side2=>exact (Kd.V_reads' HO0_0.out).2.1);(case side3=>repeat (first|exact (Kd.V_reads' HO0_1.out).2.2|(with_reducible refine ca ?_ _)|(with_reducible refine cb ?_ _)|(with_reducible refine cc ?_)));(case side4=>exact (Kd.V_reads' HO0_1.out).2.1);rintro e w9 ⟨rfl,hb⟩;refine ⟨_,rfl,?_⟩;have n0_:=A_ (Kd.V_below (by (with_reducible repeat (first|apply Kd.V_alloc|apply Kd.V_drewN|apply Kd.V_drew));exact HO0_0.out) hb);have n1_:=A_ (Kd.V_below (by (with_reducible repeat (first|apply Kd.V_alloc|apply Kd.V_drewN|apply Kd.V_drew));exact HO0_1.out) hb);have n2_:=A_ (blk_below (g:=gb149) (o:=.cells #[.slice A0_0 l0_0.length c0_0,.slice A0_1 l0_1.length c0_1] 25 (0,0)) (by (with_reducible repeat (first|refine blk_drewN ?_ _|refine blk_drew ?_|refine blk_alloc ?_ _));exact BK149.out) hb);have n3_:=A_ (below_step (by repeat (first|(with_reducible first|exact HB.out|apply ba|apply bb|apply bc|refine below_set ?_ GE149.out)|exact HB.out)) hb);clear HO0_0;clear HO0_1;clear BK149;clear HB;have HO0_0:=n0_;have HO0_1:=n1_;have BK149:=n2_;have HB:=n3_;clear n0_ n1_ n2_ n3_;(try clear hb);(try clear hb2);(try clear hk);(try clear hi);have hcz10_0 : w9.cell? ⟨gb149,0,none⟩ = some (.slice A0_0 l0_0.length c0_0):=(blk_cell BK149.out 0).trans rfl;have hcz10_1 : w9.cell? ⟨gb149,1,none⟩ = some (.slice A0_1 l0_1.length c0_1):=(blk_cell BK149.out 1).trans rfl;have hfz10_0:=blk_frozen BK149.out 0;have hfz10_1:=blk_frozen BK149.out 1;have p151 : 0 ≤ (a1 : Int):=of_decide_eq_true (by first|(with_reducible assumption)|assumption);have q151 : a1 < (l0_0.length : Int):=of_decide_eq_true (by first|(with_reducible assumption)|assumption);obtain ⟨ad151,A151_0,c151_0,e151,hx151_0,hl151_0,hi151_0⟩:=at_L1 (Kd.V_reads' HO0_0.out).2.2 a1 p151 q151;cases e151;obtain ⟨ce151,hce151,hMe151,hcc151⟩:=Kd.V_get HO0_0.out [] a1 p151 (by first|exact q151|exact of_decide_eq_true (by first|(with_reducible assumption)|assumption)|(have e_:=(Kd.V_reads' HO0_0.out).1;omega));obtain ⟨ua151_0,uc151_0,rfl,ul151_0,ge151_0⟩:=Kd.FK_slice_open hMe151;have hv151_0:=hcc151 0 _ rfl;rw [Nat.add_zero,show ((Kd.slice 5 (Kd.int .u8))).sz = 1 from rfl,Nat.mul_one] at hv151_0;replace hv151_0:=Option.some.inj (hv151_0.symm.trans hx151_0);injection hv151_0 with hva_ hvn_ hvc_;rw [hva_] at ge151_0;rw [hvc_] at ul151_0;have HL151_0:=A_ (show Kd.V (Kd.int .u8) 5 _ w.heap.size _ _ (rd_L1 l0_0 a1) from Kd.V_mk ul151_0 ge151_0);clear hva_ hvn_ hvc_ ge151_0 ul151_0;clear hcc151 hce151;have HR151_0:=A_ hi151_0;have HC151_0:=A_ hl151_0;clear hi151_0 hl151_0;replace p151:=eq_true p151;replace q151:=eq_true q151))
    go_loopg [7,24] k (fun kq v7 v24 w'=>∃ (x7_1 : List Int) (x24_1 : Int),v24 = .int .i64 x24_1∧Aside0 (device_Read.l0 kq a1 x7_1 l0_1 (l0_1.length : Int) x24_1 = some (r1,r2))∧Aside0 (kq ≤ k)∧Aside0 (Kd.V (Kd.int .u8) 5 w' w.heap.size (fun k_=>((P0_0_ k_ ∨ P0_1_ k_) ∨ w.heap.size ≤ k_)∧k_≠gb149) v7 x7_1)∧Aside0 (Kd.V k42 42 w' w.heap.size (fun k_=>((P0_0_ k_ ∨ P0_1_ k_) ∨ w.heap.size ≤ k_)∧k_≠gb149) (.slice A0_1 l0_1.length c0_1) l0_1)∧Aside0 (Kd.V (Kd.slice 5 (Kd.int .u8)) 26 w' w.heap.size (fun k_=>((P0_0_ k_ ∨ P0_1_ k_) ∨ w.heap.size ≤ k_)∧k_≠gb149) (.slice (some ad151) l0_0.length c0_0) l0_0)∧Aside0 (Kd.V k42 42 w' w.heap.size (fun k_=>((P0_0_ k_ ∨ P0_1_ k_) ∨ w.heap.size ≤ k_)∧k_≠gb149) (.slice A0_1 l0_1.length c0_1) l0_1)∧Aside0 (w'.heap[gb149]? = some (.cells #[(.slice (some ad151) l0_0.length c0_0),(.slice A0_1 l0_1.length c0_1)] 25 (0,0)))∧Aside0 (Kd.C (Kd.int .u8) w' A151_0 (rd_L1 l0_0 a1).length (rd_L1 l0_0 a1))∧Aside0 (Below w.heap.size w w'))
    case atStart=>exact ⟨(rd_L1 l0_0 a1),(0),(by first|rfl|(simp;done)|(simp [*];done)),H',⟨Nat.le_refl _⟩,⟨by (with_reducible repeat (first|apply Kd.V_alloc|apply Kd.V_drewN|apply Kd.V_drew));exact HL151_0.out⟩,⟨by (with_reducible repeat (first|apply Kd.V_alloc|apply Kd.V_drewN|apply Kd.V_drew));exact HO0_1.out⟩,⟨by (with_reducible repeat (first|apply Kd.V_alloc|apply Kd.V_drewN|apply Kd.V_drew));exact HO0_0.out⟩,⟨by (with_reducible repeat (first|apply Kd.V_alloc|apply Kd.V_drewN|apply Kd.V_drew));exact HO0_1.out⟩,⟨by (with_reducible repeat (first|refine blk_drewN ?_ _|refine blk_drew ?_|refine blk_alloc ?_ _));exact BK149.out⟩,⟨by repeat (first|(with_reducible exact HR151_0.out)|(with_reducible refine ca ?_ _)|(with_reducible refine cb ?_ _)|(with_reducible refine cc ?_)|exact HR151_0.out)⟩,⟨by repeat (first|(with_reducible first|exact HB.out|apply ba|apply bb|apply bc|refine below_set ?_ GE149.out)|exact HB.out)⟩⟩
    case round =>
     clear H'
     try clear c1
     try clear p1
     try clear q1
     try clear hx1
     try clear c2
     try clear p2
     try clear c4
     try clear c4b0
     try clear c4b1
     try clear c5
     try clear c5b0
     try clear c6
     try clear c6b0
     try clear hcz10_0
     try clear hcz10_1
     try clear hcz8_0
     try clear hcz8_1
     try clear hfz10_0
     try clear hfz10_1
     try clear hfz8_0
     try clear hfz8_1
     try clear hx151_0
     try clear p151
     try clear q151
     obtain ⟨x7_1,x24_1,rfl,HA,HK1,HO_7,HO_22,HO_150000,HO_150001,BK149,HR151_0,HB⟩:=hrel
     cases gk with
     | zero=>exact absurd HA.out (by simp [device_Read.l0])
     | succ k1 =>
      have H:=HA.out
      clear HA
      simp only [device_Read.l0] at H
      by_cases c11 : x24_1 < (l0_1.length : Int)
      ·
       rw [if_pos c11] at H
       have c11b0 : decide (x24_1 < (l0_1.length : Int)) = true:=decide_eq_true c11
       clear c11
       by_cases c12 : 0 ≤ x24_1
       ·
        rw [if_pos c12] at H
        have c12b0 : decide (0 ≤ x24_1) = true:=decide_eq_true c12
        clear c12
        by_cases c13 : x24_1 < (l0_1.length : Int)
        ·
         rw [if_pos c13] at H
         have c13b0 : decide (x24_1 < (l0_1.length : Int)) = true:=decide_eq_true c13
         clear c13
         by_cases c14 : ((rd_T42 l0_1 x24_1).f0) = a1
         ·
          rw [if_pos c14] at H
          have c14b0 : (((rd_T42 l0_1 x24_1).f0) == a1) = true:=beq_iff_eq.mpr c14
          have c14b1 : (((rd_T42 l0_1 x24_1).f0) != a1) = false:=bne_eq_false_iff_eq.mpr c14
          clear c14
          have H':=A_ H
          clear H
          have p152 : 0 ≤ (x24_1 : Int):=of_decide_eq_true (by first|(with_reducible assumption)|assumption)
          have q152 : x24_1 < (l0_1.length : Int):=of_decide_eq_true (by first|(with_reducible assumption)|assumption)
          obtain ⟨ad152,A152_1,c152_1,e152,hx152_0,hx152_1,hl152_1,hi152_1⟩:=at_T42 (Kd.V_reads' HO_22.out).2.2 x24_1 p152 q152
          cases e152
          obtain ⟨ce152,hce152,hMe152,hcc152⟩:=Kd.V_get HO_22.out z42 x24_1 p152 (by first|exact q152|exact of_decide_eq_true (by first|(with_reducible assumption)|assumption)|(have e_:=(Kd.V_reads' HO_22.out).1;omega))
          obtain ⟨ua152_1,uc152_1,rfl,ul152_1,ge152_1⟩:=k42_openF hMe152
          have hv152_1:=hcc152 1 _ rfl
          rw [add_field _ _ 1 (by omega)] at hv152_1
          replace hv152_1:=Option.some.inj (hv152_1.symm.trans hx152_1)
          injection hv152_1 with hva_ hvn_ hvc_
          rw [hva_] at ge152_1
          rw [hvc_] at ul152_1
          have HL152_1:=A_ (show Kd.V (Kd.int .u8) 5 _ w.heap.size _ _ ((rd_T42 l0_1 x24_1).f1) from Kd.V_mk ul152_1 ge152_1)
          clear hva_ hvn_ hvc_ ge152_1 ul152_1
          clear hcc152 hce152
          have HR152_1:=A_ hi152_1
          have HC152_1:=A_ hl152_1
          clear hi152_1 hl152_1
          replace p152:=eq_true p152
          replace q152:=eq_true q152
          go_wp2_with (first|((with_reducible refine gate_dst (N:=9) rfl ?_);refine box_event ?hg (N:=9) ?hd (cs:=#[.int .i64 0,.slice none 0 0]) (t:=42) ?hr ?_;(case hd=>rfl);(case hg=>rfl);(case hr=>first|(go_simp;done)|(go_simp;rfl));intro gb153 hg w15 hbox hb;have n0_:=A_ (Kd.V_below (Kd.V_elderB (by (with_reducible repeat (first|apply Kd.V_alloc|apply Kd.V_drewN|apply Kd.V_drew));exact HO_7.out) gb153 (Nat.le_of_eq hg.symm)) hb);have n1_:=A_ (Kd.V_below (Kd.V_elderB (by (with_reducible repeat (first|apply Kd.V_alloc|apply Kd.V_drewN|apply Kd.V_drew));exact HO_22.out) gb153 (Nat.le_of_eq hg.symm)) hb);have n2_:=A_ (Kd.V_below (Kd.V_elderB (by (with_reducible repeat (first|apply Kd.V_alloc|apply Kd.V_drewN|apply Kd.V_drew));exact HO_150000.out) gb153 (Nat.le_of_eq hg.symm)) hb);have n3_:=A_ (Kd.V_below (Kd.V_elderB (by (with_reducible repeat (first|apply Kd.V_alloc|apply Kd.V_drewN|apply Kd.V_drew));exact HO_150001.out) gb153 (Nat.le_of_eq hg.symm)) hb);have n4_:=A_ (Kd.V_below (Kd.V_elderB (by (with_reducible repeat (first|apply Kd.V_alloc|apply Kd.V_drewN|apply Kd.V_drew));exact HL152_1.out) gb153 (Nat.le_of_eq hg.symm)) hb);have n5_:=A_ (blk_below (g:=gb149) (o:=.cells #[.slice (some ad151) l0_0.length c0_0,.slice (some ad152) l0_1.length c0_1] 25 (0,0)) (by (with_reducible repeat (first|refine blk_drewN ?_ _|refine blk_drew ?_|refine blk_alloc ?_ _));exact BK149.out) hb);have n6_:=A_ (Kd.C_below (by repeat (first|(with_reducible exact HR151_0.out)|(with_reducible refine ca ?_ _)|(with_reducible refine cb ?_ _)|(with_reducible refine cc ?_)|exact HR151_0.out)) hb);have n7_:=A_ (Kd.C_below (by repeat (first|(with_reducible exact HR152_1.out)|(with_reducible refine ca ?_ _)|(with_reducible refine cb ?_ _)|(with_reducible refine cc ?_)|exact HR152_1.out)) hb);have n8_:=A_ (below_step (by repeat (first|(with_reducible first|exact HB.out|apply ba|apply bb|apply bc|refine below_set ?_ GE149.out)|exact HB.out)) hb);have n9_:=A_ (hbox);have n10_:=A_ ((by rw [hg];exact (below_size (by repeat (first|(with_reducible first|exact HB.out|apply ba|apply bb|apply bc|refine below_set ?_ GE149.out)|exact HB.out))) : w.heap.size ≤ gb153));have n11_:=A_ ((by rw [hg];exact (below_size (by repeat (first|(with_reducible first|exact HB.out|apply ba|apply bb|apply bc|refine below_set ?_ GE149.out)|exact HB.out))) : w.heap.size ≤ gb153));have n12_:=A_ ((by rw [hg];exact Nat.ne_of_lt (blk_lt (g:=gb149) (o:=.cells #[.slice (some ad151) l0_0.length c0_0,.slice (some ad152) l0_1.length c0_1] 25 (0,0)) (by (with_reducible repeat (first|refine blk_drewN ?_ _|refine blk_drew ?_|refine blk_alloc ?_ _));exact BK149.out)) : gb149≠gb153));have n13_:=A_ ((by rw [hg];exact Nat.ne_of_gt (blk_lt (g:=gb149) (o:=.cells #[.slice (some ad151) l0_0.length c0_0,.slice (some ad152) l0_1.length c0_1] 25 (0,0)) (by (with_reducible repeat (first|refine blk_drewN ?_ _|refine blk_drew ?_|refine blk_alloc ?_ _));exact BK149.out)) : gb153≠gb149));have n14_:=A_ (CF.new (by repeat (first|(with_reducible exact HR151_0.out)|(with_reducible refine ca ?_ _)|(with_reducible refine cb ?_ _)|(with_reducible refine cc ?_)|exact HR151_0.out)) hg hb);have n15_:=A_ (CF.new (by repeat (first|(with_reducible exact HR152_1.out)|(with_reducible refine ca ?_ _)|(with_reducible refine cb ?_ _)|(with_reducible refine cc ?_)|exact HR152_1.out)) hg hb);clear HO_7;clear HO_22;clear HO_150000;clear HO_150001;clear HL152_1;clear BK149;clear HR151_0;clear HR152_1;clear HB;have HO_7:=n0_;have HO_22:=n1_;have HO_150000:=n2_;have HO_150001:=n3_;have HL152_1:=n4_;have BK149:=n5_;have HR151_0:=n6_;have HR152_1:=n7_;have HB:=n8_;have BK153:=n9_;have GW153:=n10_;have GE153:=n11_;have NB149_153:=n12_;have NB153_149:=n13_;have HZ151_0_153:=n14_;have HZ152_1_153:=n15_;clear n0_ n1_ n2_ n3_ n4_ n5_ n6_ n7_ n8_ n9_ n10_ n11_ n12_ n13_ n14_ n15_;clear hb hbox hg;have hnb16:=NB153_149.out;have hnc16:=NB149_153.out;have hcz17_0 : w15.cell? ⟨gb153,0,none⟩ = some (.int .i64 0):=(blk_cell BK153.out 0).trans rfl;have hcz17_1 : w15.cell? ⟨gb153,1,none⟩ = some (.slice none 0 0):=(blk_cell BK153.out 1).trans rfl;have hfz17_0:=blk_frozen BK153.out 0;have hfz17_1:=blk_frozen BK153.out 1)|((with_reducible refine gate_store (t:=42) (p:=9) rfl ?_);refine store_event (t:=42) (p:=9) (v:=?vo_w18) (w1:=((w15.setCell ⟨gb153,0,none⟩ (.int .i64 ((rd_T42 l0_1 x24_1).f0))).setCell ⟨gb153,1,none⟩ (.slice A152_1 ((rd_T42 l0_1 x24_1).f1).length c152_1))) ?hg ?ho ?hn ?hr ?_;(case ho=>rfl);(case hg=>rfl);(case hn=>rfl);(case hr=>first|(go_simp;done)|(go_simp;rfl));intro w18 hw;have n0_ : Aside0 (Kd.V (Kd.int .u8) 5 w18 w.heap.size (fun k_=>((P0_0_ k_ ∨ P0_1_ k_) ∨ w.heap.size ≤ k_)∧k_≠gb149∧k_≠gb153) u7 x7_1):=⟨(by rw [hw];exact (by (with_reducible repeat (first|apply Kd.V_alloc|apply Kd.V_drewN|apply Kd.V_drew));exact Kd.V_mono (Kd.V_far (p:=⟨gb153,1,none⟩) (Kd.V_far (p:=⟨gb153,0,none⟩) (Kd.V_mono HO_7.out (fun k_ hk=>(⟨hk,hk.2⟩ : _∧k_≠gb153))) (fun _ hk=>hk.2) (.int .i64 ((rd_T42 l0_1 x24_1).f0))) (fun _ hk=>hk.2) (.slice A152_1 ((rd_T42 l0_1 x24_1).f1).length c152_1)) (fun _ hk=>⟨hk.1.1.1,⟨hk.1.1.2,hk.1.2⟩⟩)))⟩;have n1_ : Aside0 (Kd.V k42 42 w18 w.heap.size (fun k_=>((P0_0_ k_ ∨ P0_1_ k_) ∨ w.heap.size ≤ k_)∧k_≠gb149∧k_≠gb153) (.slice (some ad152) l0_1.length c0_1) l0_1):=⟨(by rw [hw];exact (by (with_reducible repeat (first|apply Kd.V_alloc|apply Kd.V_drewN|apply Kd.V_drew));exact Kd.V_mono (Kd.V_far (p:=⟨gb153,1,none⟩) (Kd.V_far (p:=⟨gb153,0,none⟩) (Kd.V_mono HO_22.out (fun k_ hk=>(⟨hk,hk.2⟩ : _∧k_≠gb153))) (fun _ hk=>hk.2) (.int .i64 ((rd_T42 l0_1 x24_1).f0))) (fun _ hk=>hk.2) (.slice A152_1 ((rd_T42 l0_1 x24_1).f1).length c152_1)) (fun _ hk=>⟨hk.1.1.1,⟨hk.1.1.2,hk.1.2⟩⟩)))⟩;have n2_ : Aside0 (Kd.V (Kd.slice 5 (Kd.int .u8)) 26 w18 w.heap.size (fun k_=>((P0_0_ k_ ∨ P0_1_ k_) ∨ w.heap.size ≤ k_)∧k_≠gb149∧k_≠gb153) (.slice (some ad151) l0_0.length c0_0) l0_0):=⟨(by rw [hw];exact (by (with_reducible repeat (first|apply Kd.V_alloc|apply Kd.V_drewN|apply Kd.V_drew));exact Kd.V_mono (Kd.V_far (p:=⟨gb153,1,none⟩) (Kd.V_far (p:=⟨gb153,0,none⟩) (Kd.V_mono HO_150000.out (fun k_ hk=>(⟨hk,hk.2⟩ : _∧k_≠gb153))) (fun _ hk=>hk.2) (.int .i64 ((rd_T42 l0_1 x24_1).f0))) (fun _ hk=>hk.2) (.slice A152_1 ((rd_T42 l0_1 x24_1).f1).length c152_1)) (fun _ hk=>⟨hk.1.1.1,⟨hk.1.1.2,hk.1.2⟩⟩)))⟩;have n3_ : Aside0 (Kd.V k42 42 w18 w.heap.size (fun k_=>((P0_0_ k_ ∨ P0_1_ k_) ∨ w.heap.size ≤ k_)∧k_≠gb149∧k_≠gb153) (.slice (some ad152) l0_1.length c0_1) l0_1):=⟨(by rw [hw];exact (by (with_reducible repeat (first|apply Kd.V_alloc|apply Kd.V_drewN|apply Kd.V_drew));exact Kd.V_mono (Kd.V_far (p:=⟨gb153,1,none⟩) (Kd.V_far (p:=⟨gb153,0,none⟩) (Kd.V_mono HO_150001.out (fun k_ hk=>(⟨hk,hk.2⟩ : _∧k_≠gb153))) (fun _ hk=>hk.2) (.int .i64 ((rd_T42 l0_1 x24_1).f0))) (fun _ hk=>hk.2) (.slice A152_1 ((rd_T42 l0_1 x24_1).f1).length c152_1)) (fun _ hk=>⟨hk.1.1.1,⟨hk.1.1.2,hk.1.2⟩⟩)))⟩;have n4_ : Aside0 (Kd.V (Kd.int .u8) 5 w18 w.heap.size (fun k_=>((P0_0_ k_ ∨ P0_1_ k_) ∨ w.heap.size ≤ k_)∧k_≠gb149∧k_≠gb153) (.slice A152_1 ((rd_T42 l0_1 x24_1).f1).length c152_1) ((rd_T42 l0_1 x24_1).f1)):=⟨(by rw [hw];exact (by (with_reducible repeat (first|apply Kd.V_alloc|apply Kd.V_drewN|apply Kd.V_drew));exact Kd.V_mono (Kd.V_far (p:=⟨gb153,1,none⟩) (Kd.V_far (p:=⟨gb153,0,none⟩) (Kd.V_mono HL152_1.out (fun k_ hk=>(⟨hk,hk.2⟩ : _∧k_≠gb153))) (fun _ hk=>hk.2) (.int .i64 ((rd_T42 l0_1 x24_1).f0))) (fun _ hk=>hk.2) (.slice A152_1 ((rd_T42 l0_1 x24_1).f1).length c152_1)) (fun _ hk=>⟨hk.1.1.1,⟨hk.1.1.2,hk.1.2⟩⟩)))⟩;have n5_ : Aside0 (w18.heap[gb149]? = some (.cells #[.slice (some ad151) l0_0.length c0_0,.slice (some ad152) l0_1.length c0_1] 25 (0,0))):=⟨(by rw [hw];exact (by (with_reducible repeat (first|refine blk_drewN ?_ _|refine blk_drew ?_|refine blk_alloc ?_ _));refine blk_far ?_ NB149_153.out _;(with_reducible repeat (first|refine blk_drewN ?_ _|refine blk_drew ?_|refine blk_alloc ?_ _));refine blk_far ?_ NB149_153.out _;(with_reducible repeat (first|refine blk_drewN ?_ _|refine blk_drew ?_|refine blk_alloc ?_ _));exact BK149.out))⟩;have n6_ : Aside0 (w18.heap[gb153]? = some (.cells #[.int .i64 ((rd_T42 l0_1 x24_1).f0),.slice A152_1 ((rd_T42 l0_1 x24_1).f1).length c152_1] 42 (0,0))):=⟨(by rw [hw];exact (by (with_reducible repeat (first|refine blk_drewN ?_ _|refine blk_drew ?_|refine blk_alloc ?_ _));refine blk_put (cs:=#[.int .i64 ((rd_T42 l0_1 x24_1).f0),.slice none 0 0]) ?_ 1 _ rfl;(with_reducible repeat (first|refine blk_drewN ?_ _|refine blk_drew ?_|refine blk_alloc ?_ _));refine blk_put (cs:=#[.int .i64 0,.slice none 0 0]) ?_ 0 _ rfl;(with_reducible repeat (first|refine blk_drewN ?_ _|refine blk_drew ?_|refine blk_alloc ?_ _));exact BK153.out))⟩;have n7_ : Aside0 (Below w.heap.size w w18):=⟨(by rw [hw];exact (by repeat (first|(with_reducible first|exact HB.out|apply ba|apply bb|apply bc|refine below_set ?_ GE149.out|refine below_set ?_ GE153.out)|exact HB.out)))⟩;have n8_ : Aside0 (Kd.C (Kd.int .u8) w18 A151_0 (rd_L1 l0_0 a1).length (rd_L1 l0_0 a1)):=⟨(by rw [hw];exact (CF.C (by repeat (first|exact HZ151_0_153.out|refine CF.set ?_ _ _|refine CF.drewN ?_ _|refine CF.drew ?_|refine CF.alloc ?_ _))))⟩;have n9_ : Aside0 (Kd.C (Kd.int .u8) w18 A152_1 ((rd_T42 l0_1 x24_1).f1).length ((rd_T42 l0_1 x24_1).f1)):=⟨(by rw [hw];exact (CF.C (by repeat (first|exact HZ152_1_153.out|refine CF.set ?_ _ _|refine CF.drewN ?_ _|refine CF.drew ?_|refine CF.alloc ?_ _))))⟩;clear hw;clear HO_7;clear HO_22;clear HO_150000;clear HO_150001;clear HL152_1;clear BK149;clear BK153;clear HB;clear HR151_0;clear HR152_1;have HO_7:=n0_;have HO_22:=n1_;have HO_150000:=n2_;have HO_150001:=n3_;have HL152_1:=n4_;have BK149:=n5_;have BK153:=n6_;have HB:=n7_;have HR151_0:=n8_;have HR152_1:=n9_;clear n0_ n1_ n2_ n3_ n4_ n5_ n6_ n7_ n8_ n9_;have hcz19_0 : w18.cell? ⟨gb153,0,none⟩ = some (.int .i64 ((rd_T42 l0_1 x24_1).f0)):=(blk_cell BK153.out 0).trans rfl;have hcz19_1 : w18.cell? ⟨gb153,1,none⟩ = some (.slice A152_1 ((rd_T42 l0_1 x24_1).f1).length c152_1):=(blk_cell BK153.out 1).trans rfl;have hfz19_0:=blk_frozen BK153.out 0;have hfz19_1:=blk_frozen BK153.out 1))
          go_roundg k1
          case measure=>have:=HK1.out;omega
          case rel=>exact ⟨((rd_T42 l0_1 x24_1).f1),(wrap64 (x24_1 + 1)),(by first|rfl|(simp;done)|(simp [*];done)),H',⟨by have:=HK1.out;omega⟩,⟨by (with_reducible repeat (first|apply Kd.V_alloc|apply Kd.V_drewN|apply Kd.V_drew));exact Kd.V_mono HL152_1.out (fun _ hk=>⟨hk.1,hk.2.1⟩)⟩,⟨by (with_reducible repeat (first|apply Kd.V_alloc|apply Kd.V_drewN|apply Kd.V_drew));exact Kd.V_mono HO_22.out (fun _ hk=>⟨hk.1,hk.2.1⟩)⟩,⟨by (with_reducible repeat (first|apply Kd.V_alloc|apply Kd.V_drewN|apply Kd.V_drew));exact Kd.V_mono HO_150000.out (fun _ hk=>⟨hk.1,hk.2.1⟩)⟩,⟨by (with_reducible repeat (first|apply Kd.V_alloc|apply Kd.V_drewN|apply Kd.V_drew));exact Kd.V_mono HO_150001.out (fun _ hk=>⟨hk.1,hk.2.1⟩)⟩,⟨by (with_reducible repeat (first|refine blk_drewN ?_ _|refine blk_drew ?_|refine blk_alloc ?_ _));exact BK149.out⟩,⟨by repeat (first|(with_reducible exact HR151_0.out)|(with_reducible refine ca ?_ _)|(with_reducible refine cb ?_ _)|(with_reducible refine cc ?_)|exact HR151_0.out)⟩,⟨by repeat (first|(with_reducible first|exact HB.out|apply ba|apply bb|apply bc|refine below_set ?_ GE149.out|refine below_set ?_ GE153.out)|exact HB.out)⟩⟩
         ·
          rw [if_neg c14] at H
          have c14b0 : (((rd_T42 l0_1 x24_1).f0) == a1) = false:=beq_eq_false_iff_ne.mpr c14
          have c14b1 : (((rd_T42 l0_1 x24_1).f0) != a1) = true:=bne_iff_ne.mpr c14
          have H':=A_ H
          clear H
          have p152 : 0 ≤ (x24_1 : Int):=of_decide_eq_true (by first|(with_reducible assumption)|assumption)
          have q152 : x24_1 < (l0_1.length : Int):=of_decide_eq_true (by first|(with_reducible assumption)|assumption)
          obtain ⟨ad152,A152_1,c152_1,e152,hx152_0,hx152_1,hl152_1,hi152_1⟩:=at_T42 (Kd.V_reads' HO_22.out).2.2 x24_1 p152 q152
          cases e152
          obtain ⟨ce152,hce152,hMe152,hcc152⟩:=Kd.V_get HO_22.out z42 x24_1 p152 (by first|exact q152|exact of_decide_eq_true (by first|(with_reducible assumption)|assumption)|(have e_:=(Kd.V_reads' HO_22.out).1;omega))
          obtain ⟨ua152_1,uc152_1,rfl,ul152_1,ge152_1⟩:=k42_openF hMe152
          have hv152_1:=hcc152 1 _ rfl
          rw [add_field _ _ 1 (by omega)] at hv152_1
          replace hv152_1:=Option.some.inj (hv152_1.symm.trans hx152_1)
          injection hv152_1 with hva_ hvn_ hvc_
          rw [hva_] at ge152_1
          rw [hvc_] at ul152_1
          have HL152_1:=A_ (show Kd.V (Kd.int .u8) 5 _ w.heap.size _ _ ((rd_T42 l0_1 x24_1).f1) from Kd.V_mk ul152_1 ge152_1)
          clear hva_ hvn_ hvc_ ge152_1 ul152_1
          clear hcc152 hce152
          have HR152_1:=A_ hi152_1
          have HC152_1:=A_ hl152_1
          clear hi152_1 hl152_1
          replace p152:=eq_true p152
          replace q152:=eq_true q152
          go_wp2_with (first|((with_reducible refine gate_dst (N:=9) rfl ?_);refine box_event ?hg (N:=9) ?hd (cs:=#[.int .i64 0,.slice none 0 0]) (t:=42) ?hr ?_;(case hd=>rfl);(case hg=>rfl);(case hr=>first|(go_simp;done)|(go_simp;rfl));intro gb153 hg w20 hbox hb;have n0_:=A_ (Kd.V_below (Kd.V_elderB (by (with_reducible repeat (first|apply Kd.V_alloc|apply Kd.V_drewN|apply Kd.V_drew));exact HO_7.out) gb153 (Nat.le_of_eq hg.symm)) hb);have n1_:=A_ (Kd.V_below (Kd.V_elderB (by (with_reducible repeat (first|apply Kd.V_alloc|apply Kd.V_drewN|apply Kd.V_drew));exact HO_22.out) gb153 (Nat.le_of_eq hg.symm)) hb);have n2_:=A_ (Kd.V_below (Kd.V_elderB (by (with_reducible repeat (first|apply Kd.V_alloc|apply Kd.V_drewN|apply Kd.V_drew));exact HO_150000.out) gb153 (Nat.le_of_eq hg.symm)) hb);have n3_:=A_ (Kd.V_below (Kd.V_elderB (by (with_reducible repeat (first|apply Kd.V_alloc|apply Kd.V_drewN|apply Kd.V_drew));exact HO_150001.out) gb153 (Nat.le_of_eq hg.symm)) hb);have n4_:=A_ (Kd.V_below (Kd.V_elderB (by (with_reducible repeat (first|apply Kd.V_alloc|apply Kd.V_drewN|apply Kd.V_drew));exact HL152_1.out) gb153 (Nat.le_of_eq hg.symm)) hb);have n5_:=A_ (blk_below (g:=gb149) (o:=.cells #[.slice (some ad151) l0_0.length c0_0,.slice (some ad152) l0_1.length c0_1] 25 (0,0)) (by (with_reducible repeat (first|refine blk_drewN ?_ _|refine blk_drew ?_|refine blk_alloc ?_ _));exact BK149.out) hb);have n6_:=A_ (Kd.C_below (by repeat (first|(with_reducible exact HR151_0.out)|(with_reducible refine ca ?_ _)|(with_reducible refine cb ?_ _)|(with_reducible refine cc ?_)|exact HR151_0.out)) hb);have n7_:=A_ (Kd.C_below (by repeat (first|(with_reducible exact HR152_1.out)|(with_reducible refine ca ?_ _)|(with_reducible refine cb ?_ _)|(with_reducible refine cc ?_)|exact HR152_1.out)) hb);have n8_:=A_ (below_step (by repeat (first|(with_reducible first|exact HB.out|apply ba|apply bb|apply bc|refine below_set ?_ GE149.out)|exact HB.out)) hb);have n9_:=A_ (hbox);have n10_:=A_ ((by rw [hg];exact (below_size (by repeat (first|(with_reducible first|exact HB.out|apply ba|apply bb|apply bc|refine below_set ?_ GE149.out)|exact HB.out))) : w.heap.size ≤ gb153));have n11_:=A_ ((by rw [hg];exact (below_size (by repeat (first|(with_reducible first|exact HB.out|apply ba|apply bb|apply bc|refine below_set ?_ GE149.out)|exact HB.out))) : w.heap.size ≤ gb153));have n12_:=A_ ((by rw [hg];exact Nat.ne_of_lt (blk_lt (g:=gb149) (o:=.cells #[.slice (some ad151) l0_0.length c0_0,.slice (some ad152) l0_1.length c0_1] 25 (0,0)) (by (with_reducible repeat (first|refine blk_drewN ?_ _|refine blk_drew ?_|refine blk_alloc ?_ _));exact BK149.out)) : gb149≠gb153));have n13_:=A_ ((by rw [hg];exact Nat.ne_of_gt (blk_lt (g:=gb149) (o:=.cells #[.slice (some ad151) l0_0.length c0_0,.slice (some ad152) l0_1.length c0_1] 25 (0,0)) (by (with_reducible repeat (first|refine blk_drewN ?_ _|refine blk_drew ?_|refine blk_alloc ?_ _));exact BK149.out)) : gb153≠gb149));have n14_:=A_ (CF.new (by repeat (first|(with_reducible exact HR151_0.out)|(with_reducible refine ca ?_ _)|(with_reducible refine cb ?_ _)|(with_reducible refine cc ?_)|exact HR151_0.out)) hg hb);have n15_:=A_ (CF.new (by repeat (first|(with_reducible exact HR152_1.out)|(with_reducible refine ca ?_ _)|(with_reducible refine cb ?_ _)|(with_reducible refine cc ?_)|exact HR152_1.out)) hg hb);clear HO_7;clear HO_22;clear HO_150000;clear HO_150001;clear HL152_1;clear BK149;clear HR151_0;clear HR152_1;clear HB;have HO_7:=n0_;have HO_22:=n1_;have HO_150000:=n2_;have HO_150001:=n3_;have HL152_1:=n4_;have BK149:=n5_;have HR151_0:=n6_;have HR152_1:=n7_;have HB:=n8_;have BK153:=n9_;have GW153:=n10_;have GE153:=n11_;have NB149_153:=n12_;have NB153_149:=n13_;have HZ151_0_153:=n14_;have HZ152_1_153:=n15_;clear n0_ n1_ n2_ n3_ n4_ n5_ n6_ n7_ n8_ n9_ n10_ n11_ n12_ n13_ n14_ n15_;clear hb hbox hg;have hnb21:=NB153_149.out;have hnc21:=NB149_153.out;have hcz22_0 : w20.cell? ⟨gb153,0,none⟩ = some (.int .i64 0):=(blk_cell BK153.out 0).trans rfl;have hcz22_1 : w20.cell? ⟨gb153,1,none⟩ = some (.slice none 0 0):=(blk_cell BK153.out 1).trans rfl;have hfz22_0:=blk_frozen BK153.out 0;have hfz22_1:=blk_frozen BK153.out 1)|((with_reducible refine gate_store (t:=42) (p:=9) rfl ?_);refine store_event (t:=42) (p:=9) (v:=?vo_w23) (w1:=((w20.setCell ⟨gb153,0,none⟩ (.int .i64 ((rd_T42 l0_1 x24_1).f0))).setCell ⟨gb153,1,none⟩ (.slice A152_1 ((rd_T42 l0_1 x24_1).f1).length c152_1))) ?hg ?ho ?hn ?hr ?_;(case ho=>rfl);(case hg=>rfl);(case hn=>rfl);(case hr=>first|(go_simp;done)|(go_simp;rfl));intro w23 hw;have n0_ : Aside0 (Kd.V (Kd.int .u8) 5 w23 w.heap.size (fun k_=>((P0_0_ k_ ∨ P0_1_ k_) ∨ w.heap.size ≤ k_)∧k_≠gb149∧k_≠gb153) u7 x7_1):=⟨(by rw [hw];exact (by (with_reducible repeat (first|apply Kd.V_alloc|apply Kd.V_drewN|apply Kd.V_drew));exact Kd.V_mono (Kd.V_far (p:=⟨gb153,1,none⟩) (Kd.V_far (p:=⟨gb153,0,none⟩) (Kd.V_mono HO_7.out (fun k_ hk=>(⟨hk,hk.2⟩ : _∧k_≠gb153))) (fun _ hk=>hk.2) (.int .i64 ((rd_T42 l0_1 x24_1).f0))) (fun _ hk=>hk.2) (.slice A152_1 ((rd_T42 l0_1 x24_1).f1).length c152_1)) (fun _ hk=>⟨hk.1.1.1,⟨hk.1.1.2,hk.1.2⟩⟩)))⟩;have n1_ : Aside0 (Kd.V k42 42 w23 w.heap.size (fun k_=>((P0_0_ k_ ∨ P0_1_ k_) ∨ w.heap.size ≤ k_)∧k_≠gb149∧k_≠gb153) (.slice (some ad152) l0_1.length c0_1) l0_1):=⟨(by rw [hw];exact (by (with_reducible repeat (first|apply Kd.V_alloc|apply Kd.V_drewN|apply Kd.V_drew));exact Kd.V_mono (Kd.V_far (p:=⟨gb153,1,none⟩) (Kd.V_far (p:=⟨gb153,0,none⟩) (Kd.V_mono HO_22.out (fun k_ hk=>(⟨hk,hk.2⟩ : _∧k_≠gb153))) (fun _ hk=>hk.2) (.int .i64 ((rd_T42 l0_1 x24_1).f0))) (fun _ hk=>hk.2) (.slice A152_1 ((rd_T42 l0_1 x24_1).f1).length c152_1)) (fun _ hk=>⟨hk.1.1.1,⟨hk.1.1.2,hk.1.2⟩⟩)))⟩;have n2_ : Aside0 (Kd.V (Kd.slice 5 (Kd.int .u8)) 26 w23 w.heap.size (fun k_=>((P0_0_ k_ ∨ P0_1_ k_) ∨ w.heap.size ≤ k_)∧k_≠gb149∧k_≠gb153) (.slice (some ad151) l0_0.length c0_0) l0_0):=⟨(by rw [hw];exact (by (with_reducible repeat (first|apply Kd.V_alloc|apply Kd.V_drewN|apply Kd.V_drew));exact Kd.V_mono (Kd.V_far (p:=⟨gb153,1,none⟩) (Kd.V_far (p:=⟨gb153,0,none⟩) (Kd.V_mono HO_150000.out (fun k_ hk=>(⟨hk,hk.2⟩ : _∧k_≠gb153))) (fun _ hk=>hk.2) (.int .i64 ((rd_T42 l0_1 x24_1).f0))) (fun _ hk=>hk.2) (.slice A152_1 ((rd_T42 l0_1 x24_1).f1).length c152_1)) (fun _ hk=>⟨hk.1.1.1,⟨hk.1.1.2,hk.1.2⟩⟩)))⟩;have n3_ : Aside0 (Kd.V k42 42 w23 w.heap.size (fun k_=>((P0_0_ k_ ∨ P0_1_ k_) ∨ w.heap.size ≤ k_)∧k_≠gb149∧k_≠gb153) (.slice (some ad152) l0_1.length c0_1) l0_1):=⟨(by rw [hw];exact (by (with_reducible repeat (first|apply Kd.V_alloc|apply Kd.V_drewN|apply Kd.V_drew));exact Kd.V_mono (Kd.V_far (p:=⟨gb153,1,none⟩) (Kd.V_far (p:=⟨gb153,0,none⟩) (Kd.V_mono HO_150001.out (fun k_ hk=>(⟨hk,hk.2⟩ : _∧k_≠gb153))) (fun _ hk=>hk.2) (.int .i64 ((rd_T42 l0_1 x24_1).f0))) (fun _ hk=>hk.2) (.slice A152_1 ((rd_T42 l0_1 x24_1).f1).length c152_1)) (fun _ hk=>⟨hk.1.1.1,⟨hk.1.1.2,hk.1.2⟩⟩)))⟩;have n4_ : Aside0 (Kd.V (Kd.int .u8) 5 w23 w.heap.size (fun k_=>((P0_0_ k_ ∨ P0_1_ k_) ∨ w.heap.size ≤ k_)∧k_≠gb149∧k_≠gb153) (.slice A152_1 ((rd_T42 l0_1 x24_1).f1).length c152_1) ((rd_T42 l0_1 x24_1).f1)):=⟨(by rw [hw];exact (by (with_reducible repeat (first|apply Kd.V_alloc|apply Kd.V_drewN|apply Kd.V_drew));exact Kd.V_mono (Kd.V_far (p:=⟨gb153,1,none⟩) (Kd.V_far (p:=⟨gb153,0,none⟩) (Kd.V_mono HL152_1.out (fun k_ hk=>(⟨hk,hk.2⟩ : _∧k_≠gb153))) (fun _ hk=>hk.2) (.int .i64 ((rd_T42 l0_1 x24_1).f0))) (fun _ hk=>hk.2) (.slice A152_1 ((rd_T42 l0_1 x24_1).f1).length c152_1)) (fun _ hk=>⟨hk.1.1.1,⟨hk.1.1.2,hk.1.2⟩⟩)))⟩;have n5_ : Aside0 (w23.heap[gb149]? = some (.cells #[.slice (some ad151) l0_0.length c0_0,.slice (some ad152) l0_1.length c0_1] 25 (0,0))):=⟨(by rw [hw];exact (by (with_reducible repeat (first|refine blk_drewN ?_ _|refine blk_drew ?_|refine blk_alloc ?_ _));refine blk_far ?_ NB149_153.out _;(with_reducible repeat (first|refine blk_drewN ?_ _|refine blk_drew ?_|refine blk_alloc ?_ _));refine blk_far ?_ NB149_153.out _;(with_reducible repeat (first|refine blk_drewN ?_ _|refine blk_drew ?_|refine blk_alloc ?_ _));exact BK149.out))⟩;have n6_ : Aside0 (w23.heap[gb153]? = some (.cells #[.int .i64 ((rd_T42 l0_1 x24_1).f0),.slice A152_1 ((rd_T42 l0_1 x24_1).f1).length c152_1] 42 (0,0))):=⟨(by rw [hw];exact (by (with_reducible repeat (first|refine blk_drewN ?_ _|refine blk_drew ?_|refine blk_alloc ?_ _));refine blk_put (cs:=#[.int .i64 ((rd_T42 l0_1 x24_1).f0),.slice none 0 0]) ?_ 1 _ rfl;(with_reducible repeat (first|refine blk_drewN ?_ _|refine blk_drew ?_|refine blk_alloc ?_ _));refine blk_put (cs:=#[.int .i64 0,.slice none 0 0]) ?_ 0 _ rfl;(with_reducible repeat (first|refine blk_drewN ?_ _|refine blk_drew ?_|refine blk_alloc ?_ _));exact BK153.out))⟩;have n7_ : Aside0 (Below w.heap.size w w23):=⟨(by rw [hw];exact (by repeat (first|(with_reducible first|exact HB.out|apply ba|apply bb|apply bc|refine below_set ?_ GE149.out|refine below_set ?_ GE153.out)|exact HB.out)))⟩;have n8_ : Aside0 (Kd.C (Kd.int .u8) w23 A151_0 (rd_L1 l0_0 a1).length (rd_L1 l0_0 a1)):=⟨(by rw [hw];exact (CF.C (by repeat (first|exact HZ151_0_153.out|refine CF.set ?_ _ _|refine CF.drewN ?_ _|refine CF.drew ?_|refine CF.alloc ?_ _))))⟩;have n9_ : Aside0 (Kd.C (Kd.int .u8) w23 A152_1 ((rd_T42 l0_1 x24_1).f1).length ((rd_T42 l0_1 x24_1).f1)):=⟨(by rw [hw];exact (CF.C (by repeat (first|exact HZ152_1_153.out|refine CF.set ?_ _ _|refine CF.drewN ?_ _|refine CF.drew ?_|refine CF.alloc ?_ _))))⟩;clear hw;clear HO_7;clear HO_22;clear HO_150000;clear HO_150001;clear HL152_1;clear BK149;clear BK153;clear HB;clear HR151_0;clear HR152_1;have HO_7:=n0_;have HO_22:=n1_;have HO_150000:=n2_;have HO_150001:=n3_;have HL152_1:=n4_;have BK149:=n5_;have BK153:=n6_;have HB:=n7_;have HR151_0:=n8_;have HR152_1:=n9_;clear n0_ n1_ n2_ n3_ n4_ n5_ n6_ n7_ n8_ n9_;have hcz24_0 : w23.cell? ⟨gb153,0,none⟩ = some (.int .i64 ((rd_T42 l0_1 x24_1).f0)):=(blk_cell BK153.out 0).trans rfl;have hcz24_1 : w23.cell? ⟨gb153,1,none⟩ = some (.slice A152_1 ((rd_T42 l0_1 x24_1).f1).length c152_1):=(blk_cell BK153.out 1).trans rfl;have hfz24_0:=blk_frozen BK153.out 0;have hfz24_1:=blk_frozen BK153.out 1))
          go_roundg k1
          case measure=>have:=HK1.out;omega
          case rel=>exact ⟨(x7_1),(wrap64 (x24_1 + 1)),(by first|rfl|(simp;done)|(simp [*];done)),H',⟨by have:=HK1.out;omega⟩,⟨by (with_reducible repeat (first|apply Kd.V_alloc|apply Kd.V_drewN|apply Kd.V_drew));exact Kd.V_mono HO_7.out (fun _ hk=>⟨hk.1,hk.2.1⟩)⟩,⟨by (with_reducible repeat (first|apply Kd.V_alloc|apply Kd.V_drewN|apply Kd.V_drew));exact Kd.V_mono HO_22.out (fun _ hk=>⟨hk.1,hk.2.1⟩)⟩,⟨by (with_reducible repeat (first|apply Kd.V_alloc|apply Kd.V_drewN|apply Kd.V_drew));exact Kd.V_mono HO_150000.out (fun _ hk=>⟨hk.1,hk.2.1⟩)⟩,⟨by (with_reducible repeat (first|apply Kd.V_alloc|apply Kd.V_drewN|apply Kd.V_drew));exact Kd.V_mono HO_150001.out (fun _ hk=>⟨hk.1,hk.2.1⟩)⟩,⟨by (with_reducible repeat (first|refine blk_drewN ?_ _|refine blk_drew ?_|refine blk_alloc ?_ _));exact BK149.out⟩,⟨by repeat (first|(with_reducible exact HR151_0.out)|(with_reducible refine ca ?_ _)|(with_reducible refine cb ?_ _)|(with_reducible refine cc ?_)|exact HR151_0.out)⟩,⟨by repeat (first|(with_reducible first|exact HB.out|apply ba|apply bb|apply bc|refine below_set ?_ GE149.out|refine below_set ?_ GE153.out)|exact HB.out)⟩⟩
        ·
         rw [if_neg c13] at H
         exact absurd H (by simp)
       ·
        rw [if_neg c12] at H
        exact absurd H (by simp)
      ·
       rw [if_neg c11] at H
       have c11b0 : decide (x24_1 < (l0_1.length : Int)) = false:=decide_eq_false c11
       clear c11
       replace H:=Option.bind_eq_some_iff.mp H
       obtain ⟨t154,A250,H⟩:=H
       replace H : (some (t154,0)) = some (r1,r2):=H
       have A25:=A_ A250
       clear A250
       simp only [Option.some.injEq,Prod.mk.injEq] at H
       obtain ⟨rfl,rfl⟩:=H
       obtain ⟨Ao26,co26,eo26⟩:=Kd.V_slice HO_7.out
       subst eo26
       go_wp2_with (first|((with_reducible refine gate_callee (f:=24) rfl ?_);refine goesL_ (some 36) rfl rfl Try.func24 (by kernel_rfl) rfl #[.slice Ao26 x7_1.length co26,.int .i64 64] rfl (by (try simp only [List.map_toArray,List.map_cons,List.map_nil]);first|done|rfl|(simp only [List.length_drop,List.length_take];rfl)) ?_;(with_reducible refine (device_padded.calls _ _ x7_1 64 t154 _ ?side1 ?side2 A25.out).mono ?_);(case side1=>repeat (first|exact (Kd.V_reads' HO_7.out).2.2|(with_reducible refine ca ?_ _)|(with_reducible refine cb ?_ _)|(with_reducible refine cc ?_)));(case side2=>exact (Kd.V_reads' HO_7.out).2.1);rintro e w27 ⟨v155,rfl,ho0,hb⟩;refine ⟨_,rfl,?_⟩;have n0_:=A_ (Kd.V_elder' (by (with_reducible repeat (first|apply Kd.V_alloc|apply Kd.V_drewN|apply Kd.V_drew));exact HO_7.out) (rs ho0) hb);have n1_:=A_ (Kd.V_elder' (by (with_reducible repeat (first|apply Kd.V_alloc|apply Kd.V_drewN|apply Kd.V_drew));exact HO_22.out) (rs ho0) hb);have n2_:=A_ (Kd.V_elder' (by (with_reducible repeat (first|apply Kd.V_alloc|apply Kd.V_drewN|apply Kd.V_drew));exact HO_150000.out) (rs ho0) hb);have n3_:=A_ (Kd.V_elder' (by (with_reducible repeat (first|apply Kd.V_alloc|apply Kd.V_drewN|apply Kd.V_drew));exact HO_150001.out) (rs ho0) hb);have n4_:=A_ (Kd.R_lower (Kd.R_newM (M:=fun k_=>(w.heap.size ≤ k_)) ho0 (below_size (by repeat (first|(with_reducible first|exact HB.out|apply ba|apply bb|apply bc|refine below_set ?_ GE149.out)|exact HB.out))) (fun k_ h_=>h_)) (below_size (by repeat (first|(with_reducible first|exact HB.out|apply ba|apply bb|apply bc|refine below_set ?_ GE149.out)|exact HB.out))));have n5_:=A_ (blk_below (g:=gb149) (o:=.cells #[.slice (some ad151) l0_0.length c0_0,.slice A0_1 l0_1.length c0_1] 25 (0,0)) (by (with_reducible repeat (first|refine blk_drewN ?_ _|refine blk_drew ?_|refine blk_alloc ?_ _));exact BK149.out) hb);have n6_:=A_ (Kd.C_below (by repeat (first|(with_reducible exact HR151_0.out)|(with_reducible refine ca ?_ _)|(with_reducible refine cb ?_ _)|(with_reducible refine cc ?_)|exact HR151_0.out)) hb);have n7_:=A_ (below_step (by repeat (first|(with_reducible first|exact HB.out|apply ba|apply bb|apply bc|refine below_set ?_ GE149.out)|exact HB.out)) hb);clear HO_7;clear HO_22;clear HO_150000;clear HO_150001;clear BK149;clear HR151_0;clear HB;have HO_7:=n0_;have HO_22:=n1_;have HO_150000:=n2_;have HO_150001:=n3_;have HO156:=n4_;have BK149:=n5_;have HR151_0:=n6_;have HB:=n7_;clear n0_ n1_ n2_ n3_ n4_ n5_ n6_ n7_;(try clear hb);(try clear hb2);(try clear hk);(try clear hi);(try clear ho0)))
       go_ret2
       exact ⟨_,by first|rfl|(simp [errW_none,errW_some] <;> rfl)|(simp [*,errW_none,errW_some] <;> rfl),by (with_reducible repeat (first|apply ra|apply rb|apply rc));(first|exact rm HO156.out (fun _ hk=>hk.1)|exact rm HO156.out (fun _ hk=>own_len_ne hk.1)),by repeat (first|(with_reducible first|exact HB.out|apply ba|apply bb|apply bc|refine below_set ?_ GE149.out)|exact HB.out)⟩
   ·
    rw [if_neg c6] at H
    exact absurd H (by simp)
  ·
   rw [if_neg c5] at H
   exact absurd H (by simp)
 ·
  rw [if_neg c4] at H
  have c4b0 : (t150 == 0) = false:=beq_eq_false_iff_ne.mpr c4
  have c4b1 : (t150 != 0) = true:=bne_iff_ne.mpr c4
  simp only [Option.some.injEq,Prod.mk.injEq] at H
  obtain ⟨rfl,rfl⟩:=H
  go_enter Try.func16,Try.ntmps16
  go_wp2_with (first|((with_reducible refine gate_dst (N:=2) rfl ?_);refine box_event ?hg (N:=2) ?hd (cs:=#[.slice A0_0 l0_0.length c0_0,.slice A0_1 l0_1.length c0_1]) (t:=25) ?hr ?_;(case hd=>rfl);(case hg=>rfl);(case hr=>first|(go_simp;done)|(go_simp;rfl));intro gb149 hg w28 hbox hb;have n0_:=A_ (Kd.V_below (Kd.V_elderB (by (with_reducible repeat (first|apply Kd.V_alloc|apply Kd.V_drewN|apply Kd.V_drew));exact HO0_0.out) gb149 (Nat.le_of_eq hg.symm)) hb);have n1_:=A_ (Kd.V_below (Kd.V_elderB (by (with_reducible repeat (first|apply Kd.V_alloc|apply Kd.V_drewN|apply Kd.V_drew));exact HO0_1.out) gb149 (Nat.le_of_eq hg.symm)) hb);have n2_:=A_ (below_step (by repeat (first|(with_reducible first|exact HB.out|apply ba|apply bb|apply bc)|exact HB.out)) hb);have n3_:=A_ (hbox);have n4_:=A_ ((by rw [hg];exact (below_size (by repeat (first|(with_reducible first|exact HB.out|apply ba|apply bb|apply bc)|exact HB.out))) : w.heap.size ≤ gb149));have n5_:=A_ ((by rw [hg];exact (below_size (by repeat (first|(with_reducible first|exact HB.out|apply ba|apply bb|apply bc)|exact HB.out))) : w.heap.size ≤ gb149));clear HO0_0;clear HO0_1;clear HB;have HO0_0:=n0_;have HO0_1:=n1_;have HB:=n2_;have BK149:=n3_;have GW149:=n4_;have GE149:=n5_;clear n0_ n1_ n2_ n3_ n4_ n5_;clear hb hbox hg;have hcz29_0 : w28.cell? ⟨gb149,0,none⟩ = some (.slice A0_0 l0_0.length c0_0):=(blk_cell BK149.out 0).trans rfl;have hcz29_1 : w28.cell? ⟨gb149,1,none⟩ = some (.slice A0_1 l0_1.length c0_1):=(blk_cell BK149.out 1).trans rfl;have hfz29_0:=blk_frozen BK149.out 0;have hfz29_1:=blk_frozen BK149.out 1)|((with_reducible refine gate_callee (f:=23) rfl ?_);refine goesL_ (some 12) rfl rfl Try.func23 (by kernel_rfl) rfl #[.agg #[.slice A0_0 l0_0.length c0_0,.slice A0_1 l0_1.length c0_1],.int .i64 a1] rfl (by (try simp only [List.map_toArray,List.map_cons,List.map_nil]);first|done|rfl|(simp only [List.length_drop,List.length_take];rfl)) ?_;(with_reducible refine (device_checked.calls k _ _ l0_0 _ _ l0_1 a1 t150 _ ?side1 ?side2 ?side3 ?side4 A3.out).mono ?_);(case side1=>repeat (first|exact (Kd.V_reads' HO0_0.out).2.2|(with_reducible refine ca ?_ _)|(with_reducible refine cb ?_ _)|(with_reducible refine cc ?_)));(case side2=>exact (Kd.V_reads' HO0_0.out).2.1);(case side3=>repeat (first|exact (Kd.V_reads' HO0_1.out).2.2|(with_reducible refine ca ?_ _)|(with_reducible refine cb ?_ _)|(with_reducible refine cc ?_)));(case side4=>exact (Kd.V_reads' HO0_1.out).2.1);rintro e w30 ⟨rfl,hb⟩;refine ⟨_,rfl,?_⟩;have n0_:=A_ (Kd.V_below (by (with_reducible repeat (first|apply Kd.V_alloc|apply Kd.V_drewN|apply Kd.V_drew));exact HO0_0.out) hb);have n1_:=A_ (Kd.V_below (by (with_reducible repeat (first|apply Kd.V_alloc|apply Kd.V_drewN|apply Kd.V_drew));exact HO0_1.out) hb);have n2_:=A_ (blk_below (g:=gb149) (o:=.cells #[.slice A0_0 l0_0.length c0_0,.slice A0_1 l0_1.length c0_1] 25 (0,0)) (by (with_reducible repeat (first|refine blk_drewN ?_ _|refine blk_drew ?_|refine blk_alloc ?_ _));exact BK149.out) hb);have n3_:=A_ (below_step (by repeat (first|(with_reducible first|exact HB.out|apply ba|apply bb|apply bc|refine below_set ?_ GE149.out)|exact HB.out)) hb);clear HO0_0;clear HO0_1;clear BK149;clear HB;have HO0_0:=n0_;have HO0_1:=n1_;have BK149:=n2_;have HB:=n3_;clear n0_ n1_ n2_ n3_;(try clear hb);(try clear hb2);(try clear hk);(try clear hi)))
  go_ret2
  exact ⟨_,by first|rfl|(simp [errW_none,errW_some] <;> rfl)|(simp [*,errW_none,errW_some] <;> rfl),by first|exact Kd.R_nil _ _ _ _ _|exact Kd.N_nil _ _ _ _ _|exact Kd.V_nil _ _ _ _ _|exact Kd.Q_nil _ _ _ _ _|exact Kd.S_nil _ _ _ _ _,by repeat (first|(with_reducible first|exact HB.out|apply ba|apply bb|apply bc|refine below_set ?_ GE149.out)|exact HB.out)⟩

-- NOT PRINTED: function 25 (device_carried)

/-! ### device_Crash: function 17 -/
/-- The pages behind so many writes of which the first bytes are carried out. -/
def carr (n : Nat → Int) (Q : List S42) (P : List (List Int)) : Nat → List (List Int)
 | 0=>P
 | k + 1=>(carr n Q P k).set (rd_T42 Q (k : Int)).f0.toNat (((rd_T42 Q (k : Int)).f1).take (n k).toNat ++ ((carr n Q P k).getD (rd_T42 Q (k : Int)).f0.toNat []).drop (n k).toNat)
theorem carr_len (n : Nat → Int) (Q : List S42) (P : List (List Int)) : ∀ k,(carr n Q P k).length = P.length
 | 0=>rfl
 | k + 1=>by rw [carr,List.length_set];exact carr_len n Q P k
theorem carr_64 (n : Nat → Int) (Q : List S42) (P : List (List Int)) (hP : ∀ p ∈ P,p.length = 64) (hn : ∀ i,0 ≤ n i∧n i ≤ 64) (hQ : ∀ k,k < Q.length → 0 ≤ (rd_T42 Q (k : Int)).f0∧(rd_T42 Q (k : Int)).f0 < (P.length : Int)∧(rd_T42 Q (k : Int)).f1.length = 64) :
  ∀ k,k ≤ Q.length → ∀ p ∈ carr n Q P k,p.length = 64
 | 0,_=>hP
 | k + 1,hk=>by
  intro p hp
  rw [carr] at hp
  have ih:=carr_64 n Q P hP hn hQ k (by omega)
  obtain ⟨q1,q2,q3⟩:=hQ k (by omega)
  rcases List.mem_or_eq_of_mem_set hp with h|rfl
  ·
   exact ih p h
  ·
   have hlt : (rd_T42 Q (k : Int)).f0.toNat < (carr n Q P k).length:=by rw [carr_len];omega
   have hm : (carr n Q P k).getD (rd_T42 Q (k : Int)).f0.toNat [] ∈ carr n Q P k:=by
    rw [List.getD_eq_getElem?_getD,List.getElem?_eq_getElem hlt]
    exact List.getElem_mem hlt
   have:=ih _ hm
   have:=hn k
   rw [List.length_append,List.length_take,List.length_drop]
   omega
/-- What is held in a round: the boxes, the pages, the pending writes. -/
structure CarrH (w W : World) (mid : Nat) (Ap : Option Addr) (np cp : Nat) (Ps : List (List Int)) (Aq : Option Addr) (cq : Nat) (Q : List S42) (g4 g6 : Nat) : Prop where
 below : Below w.heap.size w W
 hmid : w.heap.size ≤ mid
 pages : Kd.S (Kd.slice 5 (Kd.int .u8)) 26 W w.heap.size (fun k_=>k_ < mid) (.slice Ap np cp) Ps
 pend : Kd.S k42 42 W mid (fun _=>True) (.slice Aq Q.length cq) Q
 z4 : w.heap.size ≤ g4
 b4 : W.heap[g4]? = some (.cells #[.slice none 0 0,.slice none 0 0] 25 (0,0))
 z6 : w.heap.size ≤ g6
 b6 : W.heap[g6]? = some (.cells #[.slice Ap np cp,.slice Aq Q.length cq] 25 (0,0))
 ne : g4≠g6
section
variable {w W W1 : World} {mid : Nat} {ad : Addr} {Ap : Option Addr} {np cp : Nat} {Ps : List (List Int)} {Aq : Option Addr} {cq : Nat} {Q : List S42} {g4 g6 : Nat}
theorem CarrH.step (h : CarrH w W mid Ap np cp Ps Aq cq Q g4 g6) (hb : Below W.heap.size W W1) : CarrH w W1 mid Ap np cp Ps Aq cq Q g4 g6 :=
 ⟨below_step h.below hb,h.hmid,Kd.S_below h.pages hb,Kd.S_below h.pend hb,h.z4,blk_below h.b4 hb,h.z6,blk_below h.b6 hb,h.ne⟩
theorem CarrH.put (h : CarrH w W mid (some ad) np cp Ps Aq cq Q g4 g6) {oki : Nat → Prop} {v : Value} {pp xs' : List Int} {pg : Int} (hv : Kd.R (Kd.int .u8) 5 W w.heap.size oki v pp) (hoki : ∀ k,oki k → k < mid∧some k≠(Value.slice (some ad) np cp).ownBlock)
  (hput : ∀ {w1 : World} {row : Option Nat} {x' : List Int},W.grownBy w1 row → (∀ k,row = some k → oki k) → (Kd.slice 5 (Kd.int .u8)).M w1 w.heap.size oki x' [v] → Kd.S (Kd.slice 5 (Kd.int .u8)) 26 w1 w.heap.size (fun k_=>k_ < mid) (.slice (some ad) np cp) (Ps.set pg.toNat x'))
  (hR : Kd.R (Kd.int .u8) 5 W1 w.heap.size oki v xs') (hg : W.grownBy W1 v.ownBlock) : CarrH w W1 mid (some ad) np cp (Ps.set pg.toNat xs') Aq cq Q g4 g6:=by
 refine ⟨Below.grown h.below hg h.below.size (fun k hk=>rs hv k hk),h.hmid,hput hg (fun k hk=>hv.1 k hk) ⟨v,rfl,hR⟩,?_,h.z4,blk_grown h.b4 hg (Kd.R_ne hv h.b4 (by decide)),h.z6,blk_grown h.b6 hg (Kd.R_ne hv h.b6 (by decide)),h.ne⟩
 refine Kd.S_mono (Kd.S_grown (Kd.S_bound h.pend) hg (fun k hk he=>?_)) (fun _ _=>trivial)
 have h1:=(hoki k (hv.1 k he.symm)).1
 have h2:=hk.2.1
 omega
theorem CarrH.last (h : CarrH w W mid Ap np cp Ps Aq cq Q g4 g6) :
  (((W.setCell ⟨g6,1,none⟩ (.slice none 0 0)).setCell ⟨g4,0,none⟩ (.slice Ap np cp)).setCell ⟨g4,1,none⟩ (.slice none 0 0)).heap[g4]? = some (.cells #[.slice Ap np cp,.slice none 0 0] 25 (0,0)) ∧
  Kd.S (Kd.slice 5 (Kd.int .u8)) 26 (((W.setCell ⟨g6,1,none⟩ (.slice none 0 0)).setCell ⟨g4,0,none⟩ (.slice Ap np cp)).setCell ⟨g4,1,none⟩ (.slice none 0 0)) w.heap.size (fun _=>True) (.slice Ap np cp) Ps ∧
  Below w.heap.size w (((W.setCell ⟨g6,1,none⟩ (.slice none 0 0)).setCell ⟨g4,0,none⟩ (.slice Ap np cp)).setCell ⟨g4,1,none⟩ (.slice none 0 0)):=by
 have h1:=blk_far (p:=⟨g6,1,none⟩) h.b4 h.ne (.slice none 0 0)
 have h2:=blk_set h1 0 (.slice Ap np cp)
 have h3:=blk_set h2 1 (.slice none 0 0)
 exact ⟨h3,Kd.S_mono (Kd.S_set (Kd.S_set (Kd.S_set h.pages h.b6 (by decide) 1 _) h1 (by decide) 0 _) h2 (by decide) 1 _) (fun _ _=>trivial),((h.below.setCell h.z6 _).setCell h.z4 _).setCell h.z4 _⟩
end
/-- Pages and writes of the right sizes. -/
def fit (P : List (List Int)) (Q : List S42) : Bool:=P.all (fun p=>p.length == 64) && decide (Q.length ≤ 1000) && Q.all (fun q=>decide (0 ≤ q.f0) && decide (q.f0 < (P.length : Int)) && (q.f1.length == 64))
theorem fit_is {P : List (List Int)} {Q : List S42} (h : fit P Q = true) : (∀ p ∈ P,p.length = 64)∧Q.length ≤ 1000∧∀ k,k < Q.length → 0 ≤ (rd_T42 Q (k : Int)).f0∧(rd_T42 Q (k : Int)).f0 < (P.length : Int)∧(rd_T42 Q (k : Int)).f1.length = 64:=by
 unfold fit at h
 simp only [Bool.and_eq_true,List.all_eq_true,beq_iff_eq,decide_eq_true_eq] at h
 obtain ⟨⟨h1,h2⟩,h3⟩:=h
 refine ⟨h1,h2,fun k hk=>?_⟩
 have hm : rd_T42 Q (k : Int) ∈ Q:=by
  unfold rd_T42
  rw [Int.toNat_natCast,List.getD_eq_getElem?_getD,List.getElem?_eq_getElem hk]
  exact List.getElem_mem hk
 obtain ⟨⟨a,b⟩,c⟩:=h3 _ hm
 exact ⟨a,b,c⟩
set_option maxHeartbeats 8000000 in
set_option maxRecDepth 100000 in
theorem carried_yes (n : Nat → Int) (k : Nat) (A0_0 : Option Addr) (c0_0 : Nat) (l0_0 : List (List Int)) (A0_1 : Option Addr) (c0_1 : Nat) (l0_1 : List (S42)) (P : List (List Int)) (Q : List (S42)) (w : World)
  (hr0_0 : Kd.C (Kd.slice 5 (Kd.int .u8)) w A0_0 l0_0.length l0_0) (hc0_0 : l0_0.length ≤ c0_0) (hr0_1 : Kd.C k42 w A0_1 l0_1.length l0_1) (hc0_1 : l0_1.length ≤ c0_1)
  (hcop : device_copied.f k l0_0 l0_1 = some (P,Q)) (hval : device_Valid.f k l0_0 l0_1 = some true) (hP : ∀ p ∈ P,p.length = 64) (hQl : Q.length ≤ 1000)
  (hQ : ∀ k,k < Q.length → 0 ≤ (rd_T42 Q (k : Int)).f0∧(rd_T42 Q (k : Int)).f0 < (P.length : Int)∧(rd_T42 Q (k : Int)).f1.length = 64) (hn : ∀ i,0 ≤ n i∧n i ≤ 64)
  (hcl : Aside0 (∀ (i : Nat) (W : World),i < Q.length → Below w.heap.size w W → Calls Try.prog 26 #[.int .i64 (i : Int)] W fun e w'=>e = .returned (.int .i64 (n i))∧w' = W)) :
  Calls Try.prog 25 #[.agg #[.slice A0_0 l0_0.length c0_0,.slice A0_1 l0_1.length c0_1],.func (.func 26) #[] #[]] w fun e w'=>∃ v0_ : Value,e = .returned (.tuple #[.agg #[v0_,.slice none 0 0],.int .i64 0])∧Kd.S (Kd.slice 5 (Kd.int .u8)) 26 w' w.heap.size (fun _=>True) v0_ (carr n Q P Q.length)∧Below w.heap.size w w':=by
 have HCOP:=fun W (hb : Below w.heap.size w W)=>device_copied.calls2 k A0_0 c0_0 l0_0 A0_1 c0_1 l0_1 P Q W (Kd.C_below hr0_0 hb) hc0_0 (Kd.C_below hr0_1 hb) hc0_1 hcop
 have HVAL:=fun W (hb : Below w.heap.size w W)=>device_Valid.calls k A0_0 c0_0 l0_0 A0_1 c0_1 l0_1 true W (Kd.C_below hr0_0 hb) hc0_0 (Kd.C_below hr0_1 hb) hc0_1 hval
 have hC:=A_ HCOP
 have hV:=A_ HVAL
 have HP:=A_ hP
 have HQ:=A_ hQ
 have HN:=A_ hn
 clear HCOP HVAL hr0_0 hr0_1 hcop hval hP hQ hn
 go_enter Try.func25,Try.ntmps25
 go_upto_region 1 with (fail)
 have HB0:=A_ (show Below w.heap.size w ((w.alloc (.cells #[.slice A0_0 l0_0.length c0_0,.slice A0_1 l0_1.length c0_1] 25)).alloc (.cells #[.slice none 0 0,.slice none 0 0] 25)) from ((Below.refl w.heap.size w).alloc (Nat.le_refl _) _).alloc (by simp) _)
 have HK2:=A_ (show ((w.alloc (.cells #[.slice A0_0 l0_0.length c0_0,.slice A0_1 l0_1.length c0_1] 25)).alloc (.cells #[.slice none 0 0,.slice none 0 0] 25)).heap[w.heap.size]? = some (.cells #[.slice A0_0 l0_0.length c0_0,.slice A0_1 l0_1.length c0_1] 25 (0,0)) from blk_alloc (heap_alloc_new w _) _)
 have HK4:=A_ (show ((w.alloc (.cells #[.slice A0_0 l0_0.length c0_0,.slice A0_1 l0_1.length c0_1] 25)).alloc (.cells #[.slice none 0 0,.slice none 0 0] 25)).heap[w.heap.size + 1]? = some (.cells #[.slice none 0 0,.slice none 0 0] 25 (0,0)) from by
  have:=heap_alloc_new (w.alloc (.cells #[.slice A0_0 l0_0.length c0_0,.slice A0_1 l0_1.length c0_1] 25)) (.cells #[.slice none 0 0,.slice none 0 0] 25)
  rwa [World.size_alloc] at this)
 generalize ((w.alloc (.cells #[.slice A0_0 l0_0.length c0_0,.slice A0_1 l0_1.length c0_1] 25)).alloc (.cells #[.slice none 0 0,.slice none 0 0] 25)) = W0 at HB0 HK2 HK4 ⊢
 have k0 : W0.cell? ⟨w.heap.size,0,none⟩ = some (.slice A0_0 l0_0.length c0_0):=(blk_cell HK2.out 0).trans rfl
 have k1 : W0.cell? ⟨w.heap.size,1,none⟩ = some (.slice A0_1 l0_1.length c0_1):=(blk_cell HK2.out 1).trans rfl
 go_wp2_with fail
 go_at_call 22
 refine (hC.out _ HB0.out).mono ?_
 rintro e w1 ⟨v0_,v1_,rfl,mid,hmid,hp,hq,hb1⟩
 obtain ⟨Ap,cp,rfl⟩:=Kd.S_slice hp
 obtain ⟨Aq,cq,rfl⟩:=Kd.S_slice hq
 have HB1:=A_ (below_step HB0.out hb1)
 have HK2b:=A_ (blk_below HK2.out hb1)
 have HK4b:=A_ (blk_below HK4.out hb1)
 have HP1:=A_ (Kd.S_lower hp (below_size HB0.out))
 have HQ1:=A_ hq
 have HM:=A_ (Nat.le_trans (below_size HB0.out) hmid)
 have h4:=blk_lt HK4b.out
 clear hb1 hp hq hmid k0 k1 HK2 HK4 HB0
 go_upto_region 2 with (fail)
 have hCH : CarrH w (w1.alloc (.cells #[.slice Ap P.length cp,.slice Aq Q.length cq] 25)) mid Ap P.length cp P Aq cq Q (w.heap.size + 1) w1.heap.size :=
  ⟨HB1.out.alloc HB1.out.size _,HM.out,Kd.S_alloc HP1.out _,Kd.S_alloc HQ1.out _,Nat.le_succ _,blk_alloc HK4b.out _,HB1.out.size,heap_alloc_new w1 _,Nat.ne_of_lt h4⟩
 have HC1:=A_ hCH
 have HK2c:=A_ (blk_alloc HK2b.out (.cells #[.slice Ap P.length cp,.slice Aq Q.length cq] 25))
 clear hCH HK2b HK4b HP1 HQ1 HM h4 HB1
 generalize (w1.alloc (.cells #[.slice Ap P.length cp,.slice Aq Q.length cq] 25)) = W1 at HC1 HK2c ⊢
 generalize w1.heap.size = g6 at HC1 ⊢
 obtain ⟨g4,hg4⟩ : ∃ g4,g4 = w.heap.size + 1:=⟨_,rfl⟩
 rw [← hg4] at HC1 ⊢
 clear hg4
 have k0 : W1.cell? ⟨w.heap.size,0,none⟩ = some (.slice A0_0 l0_0.length c0_0):=(blk_cell HK2c.out 0).trans rfl
 have k1 : W1.cell? ⟨w.heap.size,1,none⟩ = some (.slice A0_1 l0_1.length c0_1):=(blk_cell HK2c.out 1).trans rfl
 go_wp2_with fail
 go_at_call 19
 refine (hV.out _ HC1.out.below).mono ?_
 rintro e w2 ⟨rfl,hb2⟩
 have HC2:=A_ (HC1.out.step hb2)
 clear k0 k1 hb2 HC1 HK2c
 have k0 : w2.cell? ⟨g6,0,none⟩ = some (.slice Ap P.length cp):=(blk_cell HC2.out.b6 0).trans rfl
 have k1 : w2.cell? ⟨g6,1,none⟩ = some (.slice Aq Q.length cq):=(blk_cell HC2.out.b6 1).trans rfl
 go_wp2_with fail
 clear k0 k1
 go_loopg [18] Q.length (fun g s18 wx=>∃ i : Nat,i + g = Q.length∧s18 = .int .i64 i∧Aside0 (CarrH w wx mid Ap P.length cp (carr n Q P i) Aq cq Q g4 g6))
 case atStart=>exact ⟨0,by omega,rfl,⟨HC2.out⟩⟩
 case round =>
  clear HC2
  obtain ⟨i,hi,rfl,HC⟩:=hrel
  cases gk with
  | zero =>
   obtain rfl : i = Q.length:=by omega
   obtain ⟨Pi,hPi⟩ : ∃ Pi,Pi = carr n Q P Q.length:=⟨_,rfl⟩
   rw [← hPi] at HC
   have HPe:=A_ hPi
   clear hPi
   have k0 : wr.cell? ⟨g6,0,none⟩ = some (.slice Ap P.length cp):=(blk_cell HC.out.b6 0).trans rfl
   have k1 : wr.cell? ⟨g6,1,none⟩ = some (.slice Aq Q.length cq):=(blk_cell HC.out.b6 1).trans rfl
   have f1 : wr.frozen? ⟨g6,1,none⟩ = false:=blk_frozen HC.out.b6 1
   have f0 : wr.frozen? ⟨g6,0,none⟩ = false:=blk_frozen HC.out.b6 0
   have z0 : wr.cell? ⟨g4,0,none⟩ = some (.slice none 0 0):=(blk_cell HC.out.b4 0).trans rfl
   have z1 : wr.cell? ⟨g4,1,none⟩ = some (.slice none 0 0):=(blk_cell HC.out.b4 1).trans rfl
   have y0 : wr.frozen? ⟨g4,0,none⟩ = false:=blk_frozen HC.out.b4 0
   have y1 : wr.frozen? ⟨g4,1,none⟩ = false:=blk_frozen HC.out.b4 1
   have hne:=HC.out.ne
   have hne':=hne.symm
   go_wp2_with fail
   obtain ⟨e1,e2,e3⟩:=HC.out.last
   rw [HPe.out] at e2
   exact bodyPost_ret (results_ct rfl _ _ g4 25 _ (0,0) _ rfl e1 Try.underlying25 rfl (by kernel_rfl)) rfl ⟨_,rfl,e2,e3⟩
  | succ g =>
   have hlt : i < Q.length:=by omega
   have hlt' : (i : Int) < (Q.length : Int):=by omega
   have h0 : 0 ≤ (i : Int):=by omega
   obtain ⟨adq,A1,c1,eq,hx0,hx1,hl1,hr1⟩:=at_T42 (rd_ (Kd.S_R HC.out.pend)).2.2 (i : Int) h0 hlt'
   subst eq
   rw [Int.toNat_natCast] at hx0 hx1
   obtain ⟨q1,q2,q3⟩:=HQ.out i hlt
   obtain ⟨pg,hpg⟩ : ∃ pg,pg = (rd_T42 Q (i : Int)).f0:=⟨_,rfl⟩
   obtain ⟨bs,hbs⟩ : ∃ bs,bs = (rd_T42 Q (i : Int)).f1:=⟨_,rfl⟩
   rw [← hpg] at hx0 q1 q2
   rw [← hbs] at hx1 hl1 hr1 q3
   rw [q3] at hx1
   have HR1:=A_ hr1
   have HPG:=A_ hpg
   have HBS:=A_ hbs
   have HL1:=A_ q3
   have HC1b:=A_ hl1
   clear hr1 hpg hbs q3 hl1
   go_upto_region 7 with (fail)
   have HC3:=A_ (HC.out.step (W1:=wr.alloc (.cells #[.int .i64 pg,.slice A1 64 c1] 42)) ((Below.refl _ _).alloc (Nat.le_refl _) _))
   have HK8:=A_ (heap_alloc_new wr (.cells #[.int .i64 pg,.slice A1 64 c1] 42))
   have HR3:=A_ (Kd.C_alloc HR1.out (.cells #[.int .i64 pg,.slice A1 64 c1] 42))
   clear HC HR1 hx0 hx1
   generalize hg8 : wr.heap.size = g8 at *
   generalize (wr.alloc (.cells #[.int .i64 pg,.slice A1 64 c1] 42)) = W2 at HC3 HK8 HR3 ⊢
   clear hg8
   obtain ⟨Pi,hPi⟩ : ∃ Pi,Pi = carr n Q P i:=⟨_,rfl⟩
   rw [← hPi] at HC3
   have hPil : Pi.length = P.length:=by rw [hPi];exact carr_len n Q P i
   have hPi64 : ∀ p ∈ Pi,p.length = 64:=by rw [hPi];exact carr_64 n Q P HP.out HN.out HQ.out i (by omega)
   have HPi:=A_ hPi
   clear hPi
   obtain ⟨adp,eap,_⟩:=(rd_ (Kd.S_R HC3.out.pages)).2.2.2.2 (by omega)
   subst eap
   obtain ⟨oki,cc,hcl1,hM,hcc,hoki,hput⟩:=Kd.S_borrow HC3.out.pages ([] : List Int) pg q1 q2
   obtain ⟨vp,rfl,hvp⟩:=hM
   have hpc:=hcc 0 vp rfl
   rw [show (Kd.slice 5 (Kd.int .u8)).sz = 1 from rfl,Nat.mul_one,Nat.add_zero] at hpc
   have hpl : (Pi.getD pg.toNat []).length = 64:=by
    have hlt2 : pg.toNat < Pi.length:=by omega
    rw [List.getD_eq_getElem?_getD,List.getElem?_eq_getElem hlt2]
    exact hPi64 _ (List.getElem_mem hlt2)
   obtain ⟨pp,hpp⟩ : ∃ pp,pp = Pi.getD pg.toNat []:=⟨_,rfl⟩
   rw [← hpp] at hvp hpl
   obtain ⟨Av,cv,rfl⟩:=Kd.R_slice hvp
   rw [hpl] at hvp hpc hput
   have HVP:=A_ hvp
   have HPUT:=A_ (@hput)
   have HOKI:=A_ hoki
   have HPP:=A_ hpp
   have HPL:=A_ hpl
   obtain ⟨z,hz⟩ : ∃ z,z = n i:=⟨_,rfl⟩
   have hz01:=HN.out i
   rw [← hz] at hz01
   have hcli:=fun W hb=>hcl.out i W hlt hb
   rw [← hz] at hcli
   have HZ:=A_ hz
   have HCL:=A_ hcli
   obtain ⟨hz0,hz1⟩:=hz01
   clear hvp hput hoki hpp hcc hcl1 hz hcli hPi64 hPil
   have hcut : ∀ W : World,(Instr.slice 26 (.slice A1 64 c1) none (some (.int .i64 z)) none).run Try.prog W = .ok (.slice A1 z.toNat c1) W:=by
    obtain ⟨i5,hi5,_,hsz5,_⟩:=info_parts info5
    have hh:=(print_take_int (P:=Try.prog) (k:=.u8) 26 5 Try.underlying26 hi5 hsz5 A1 c1 bs z hz0 (by have:=HL1.out;omega) HC1b.out).1
    intro W
    have h2:=hh W
    rw [List.length_take,HL1.out,Nat.min_eq_left (by omega)] at h2
    exact h2
   have hCt : Kd.C (Kd.int .u8) W2.drew A1 z.toNat (bs.take z.toNat):=by
    have h2:=Kd.C_take (m:=z.toNat) (Kd.C_drew HR3.out) (by have:=HL1.out;omega)
    rw [show (bs.take z.toNat).length = z.toNat by rw [List.length_take,HL1.out];omega] at h2
    exact h2
   have HCT:=A_ hCt
   have HNA:=A_ (show some adp.block≠(Value.slice Av 64 cv).ownBlock from fun he=>(HOKI.out _ (HVP.out.1 _ he.symm)).2 (by simp [Value.ownBlock]))
   have HN6:=A_ (Kd.R_ne HVP.out HC3.out.b6 (by decide))
   have HN8:=A_ (Kd.R_ne HVP.out HK8.out (by decide))
   clear hCt
   have k0 : W2.cell? ⟨g6,0,none⟩ = some (.slice (some adp) P.length cp):=(blk_cell HC3.out.b6 0).trans rfl
   have k2 : W2.cell? ⟨g8,0,none⟩ = some (.int .i64 pg):=(blk_cell HK8.out 0).trans rfl
   have k3 : W2.cell? ⟨g8,1,none⟩ = some (.slice A1 64 c1):=(blk_cell HK8.out 1).trans rfl
   go_region_held3 (fun W=>W.cell? ⟨g6,0,none⟩ = some (.slice (some adp) P.length cp)∧W.cell? ⟨g8,0,none⟩ = some (.int .i64 pg)∧W.cell? ⟨g8,1,none⟩ = some (.slice A1 64 c1)∧W.cell? (adp.add pg.toNat) = some (.slice Av 64 cv))
    (first|go_keep)
    (first|(go_at_call 26;refine (HCL.out _ (below_drew HC3.out.below)).mono ?_;rintro e w3 ⟨rfl,rfl⟩)|(refine XD.copy8_step rfl (.tmp 28) (.tmp 34) 26 26 5 rfl Try.underlying26 (by kernel_rfl) w.heap.size oki (.slice Av 64 cv) pp (bs.take z.toNat) A1 z.toNat c1 rfl rfl (Kd.R_drew HVP.out) ?hC ?hm ?_;(case hC=>exact HCT.out);(case hm=>have:=HPL.out;omega);intro w5 hR5 hg5;have HR5:=A_ hR5;have HG5:=A_ hg5;clear hR5 hg5;(have z0:=World.grownBy.cell HG5.out (a:=⟨g6,0,none⟩) k0 HN6.out);(have z2:=World.grownBy.cell HG5.out (a:=⟨g8,0,none⟩) k2 HN8.out);(have z3:=World.grownBy.cell HG5.out (a:=⟨g8,1,none⟩) k3 HN8.out);(have z4:=World.grownBy.cell HG5.out (a:=adp.add pg.toNat) hpc (by rw [add_block];exact HNA.out))))
   have HC5:=A_ (CarrH.put HC3.out HVP.out HOKI.out HPUT.out HR5.out ⟨HG5.out.os,HG5.out.tape,HG5.out.output,HG5.out.size,HG5.out.block⟩)
   clear HG5 HR5 HPUT HVP HC3 HK8 HR3 k0 k2 k3 z0 z2 z3 z4 hpc hcut HCT HOKI
   go_wp2_with fail
   go_roundg g
   case measure=>omega
   case rel =>
    refine ⟨i + 1,by omega,by first|rfl|simp,⟨?_⟩⟩
    rw [carr,← HPG.out,← HBS.out,← HPi.out,← HPP.out,← HZ.out]
    exact HC5.out
set_option maxHeartbeats 8000000 in
set_option maxRecDepth 100000 in
theorem carried_yes2 (gk : Nat) (n : Nat → Int) (k : Nat) (A0_0 : Option Addr) (c0_0 : Nat) (l0_0 : List (List Int)) (A0_1 : Option Addr) (c0_1 : Nat) (l0_1 : List (S42)) (P : List (List Int)) (Q : List (S42)) (w : World)
  (hr0_0 : Kd.C (Kd.slice 5 (Kd.int .u8)) w A0_0 l0_0.length l0_0) (hc0_0 : l0_0.length ≤ c0_0) (hr0_1 : Kd.C k42 w A0_1 l0_1.length l0_1) (hc0_1 : l0_1.length ≤ c0_1)
  (hcop : device_copied.f k l0_0 l0_1 = some (P,Q)) (hval : device_Valid.f k l0_0 l0_1 = some true) (hP : ∀ p ∈ P,p.length = 64) (hQl : Q.length ≤ 1000)
  (hQ : ∀ k,k < Q.length → 0 ≤ (rd_T42 Q (k : Int)).f0∧(rd_T42 Q (k : Int)).f0 < (P.length : Int)∧(rd_T42 Q (k : Int)).f1.length = 64) (hn : ∀ i,0 ≤ n i∧n i ≤ 64)
  (hcl : Aside0 (∀ (i : Nat) (W : World),i < Q.length → Below w.heap.size w W → Calls Try.prog 27 #[.int .i64 (i : Int),.pointer (some ⟨gk,0,none⟩)] W fun e w'=>e = .returned (.int .i64 (n i))∧w' = W)) :
  Calls Try.prog 25 #[.agg #[.slice A0_0 l0_0.length c0_0,.slice A0_1 l0_1.length c0_1],.func (.func 27) #[] #[.pointer (some ⟨gk,0,none⟩)]] w fun e w'=>∃ v0_ : Value,e = .returned (.tuple #[.agg #[v0_,.slice none 0 0],.int .i64 0])∧Kd.S (Kd.slice 5 (Kd.int .u8)) 26 w' w.heap.size (fun _=>True) v0_ (carr n Q P Q.length)∧Below w.heap.size w w':=by
 have HCOP:=fun W (hb : Below w.heap.size w W)=>device_copied.calls2 k A0_0 c0_0 l0_0 A0_1 c0_1 l0_1 P Q W (Kd.C_below hr0_0 hb) hc0_0 (Kd.C_below hr0_1 hb) hc0_1 hcop
 have HVAL:=fun W (hb : Below w.heap.size w W)=>device_Valid.calls k A0_0 c0_0 l0_0 A0_1 c0_1 l0_1 true W (Kd.C_below hr0_0 hb) hc0_0 (Kd.C_below hr0_1 hb) hc0_1 hval
 have hC:=A_ HCOP
 have hV:=A_ HVAL
 have HP:=A_ hP
 have HQ:=A_ hQ
 have HN:=A_ hn
 clear HCOP HVAL hr0_0 hr0_1 hcop hval hP hQ hn
 go_enter Try.func25,Try.ntmps25
 go_upto_region 1 with (fail)
 have HB0:=A_ (show Below w.heap.size w ((w.alloc (.cells #[.slice A0_0 l0_0.length c0_0,.slice A0_1 l0_1.length c0_1] 25)).alloc (.cells #[.slice none 0 0,.slice none 0 0] 25)) from ((Below.refl w.heap.size w).alloc (Nat.le_refl _) _).alloc (by simp) _)
 have HK2:=A_ (show ((w.alloc (.cells #[.slice A0_0 l0_0.length c0_0,.slice A0_1 l0_1.length c0_1] 25)).alloc (.cells #[.slice none 0 0,.slice none 0 0] 25)).heap[w.heap.size]? = some (.cells #[.slice A0_0 l0_0.length c0_0,.slice A0_1 l0_1.length c0_1] 25 (0,0)) from blk_alloc (heap_alloc_new w _) _)
 have HK4:=A_ (show ((w.alloc (.cells #[.slice A0_0 l0_0.length c0_0,.slice A0_1 l0_1.length c0_1] 25)).alloc (.cells #[.slice none 0 0,.slice none 0 0] 25)).heap[w.heap.size + 1]? = some (.cells #[.slice none 0 0,.slice none 0 0] 25 (0,0)) from by
  have:=heap_alloc_new (w.alloc (.cells #[.slice A0_0 l0_0.length c0_0,.slice A0_1 l0_1.length c0_1] 25)) (.cells #[.slice none 0 0,.slice none 0 0] 25)
  rwa [World.size_alloc] at this)
 generalize ((w.alloc (.cells #[.slice A0_0 l0_0.length c0_0,.slice A0_1 l0_1.length c0_1] 25)).alloc (.cells #[.slice none 0 0,.slice none 0 0] 25)) = W0 at HB0 HK2 HK4 ⊢
 have k0 : W0.cell? ⟨w.heap.size,0,none⟩ = some (.slice A0_0 l0_0.length c0_0):=(blk_cell HK2.out 0).trans rfl
 have k1 : W0.cell? ⟨w.heap.size,1,none⟩ = some (.slice A0_1 l0_1.length c0_1):=(blk_cell HK2.out 1).trans rfl
 go_wp2_with fail
 go_at_call 22
 refine (hC.out _ HB0.out).mono ?_
 rintro e w1 ⟨v0_,v1_,rfl,mid,hmid,hp,hq,hb1⟩
 obtain ⟨Ap,cp,rfl⟩:=Kd.S_slice hp
 obtain ⟨Aq,cq,rfl⟩:=Kd.S_slice hq
 have HB1:=A_ (below_step HB0.out hb1)
 have HK2b:=A_ (blk_below HK2.out hb1)
 have HK4b:=A_ (blk_below HK4.out hb1)
 have HP1:=A_ (Kd.S_lower hp (below_size HB0.out))
 have HQ1:=A_ hq
 have HM:=A_ (Nat.le_trans (below_size HB0.out) hmid)
 have h4:=blk_lt HK4b.out
 clear hb1 hp hq hmid k0 k1 HK2 HK4 HB0
 go_upto_region 2 with (fail)
 have hCH : CarrH w (w1.alloc (.cells #[.slice Ap P.length cp,.slice Aq Q.length cq] 25)) mid Ap P.length cp P Aq cq Q (w.heap.size + 1) w1.heap.size :=
  ⟨HB1.out.alloc HB1.out.size _,HM.out,Kd.S_alloc HP1.out _,Kd.S_alloc HQ1.out _,Nat.le_succ _,blk_alloc HK4b.out _,HB1.out.size,heap_alloc_new w1 _,Nat.ne_of_lt h4⟩
 have HC1:=A_ hCH
 have HK2c:=A_ (blk_alloc HK2b.out (.cells #[.slice Ap P.length cp,.slice Aq Q.length cq] 25))
 clear hCH HK2b HK4b HP1 HQ1 HM h4 HB1
 generalize (w1.alloc (.cells #[.slice Ap P.length cp,.slice Aq Q.length cq] 25)) = W1 at HC1 HK2c ⊢
 generalize w1.heap.size = g6 at HC1 ⊢
 obtain ⟨g4,hg4⟩ : ∃ g4,g4 = w.heap.size + 1:=⟨_,rfl⟩
 rw [← hg4] at HC1 ⊢
 clear hg4
 have k0 : W1.cell? ⟨w.heap.size,0,none⟩ = some (.slice A0_0 l0_0.length c0_0):=(blk_cell HK2c.out 0).trans rfl
 have k1 : W1.cell? ⟨w.heap.size,1,none⟩ = some (.slice A0_1 l0_1.length c0_1):=(blk_cell HK2c.out 1).trans rfl
 go_wp2_with fail
 go_at_call 19
 refine (hV.out _ HC1.out.below).mono ?_
 rintro e w2 ⟨rfl,hb2⟩
 have HC2:=A_ (HC1.out.step hb2)
 clear k0 k1 hb2 HC1 HK2c
 have k0 : w2.cell? ⟨g6,0,none⟩ = some (.slice Ap P.length cp):=(blk_cell HC2.out.b6 0).trans rfl
 have k1 : w2.cell? ⟨g6,1,none⟩ = some (.slice Aq Q.length cq):=(blk_cell HC2.out.b6 1).trans rfl
 go_wp2_with fail
 clear k0 k1
 go_loopg [18] Q.length (fun g s18 wx=>∃ i : Nat,i + g = Q.length∧s18 = .int .i64 i∧Aside0 (CarrH w wx mid Ap P.length cp (carr n Q P i) Aq cq Q g4 g6))
 case atStart=>exact ⟨0,by omega,rfl,⟨HC2.out⟩⟩
 case round =>
  clear HC2
  obtain ⟨i,hi,rfl,HC⟩:=hrel
  cases gk with
  | zero =>
   obtain rfl : i = Q.length:=by omega
   obtain ⟨Pi,hPi⟩ : ∃ Pi,Pi = carr n Q P Q.length:=⟨_,rfl⟩
   rw [← hPi] at HC
   have HPe:=A_ hPi
   clear hPi
   have k0 : wr.cell? ⟨g6,0,none⟩ = some (.slice Ap P.length cp):=(blk_cell HC.out.b6 0).trans rfl
   have k1 : wr.cell? ⟨g6,1,none⟩ = some (.slice Aq Q.length cq):=(blk_cell HC.out.b6 1).trans rfl
   have f1 : wr.frozen? ⟨g6,1,none⟩ = false:=blk_frozen HC.out.b6 1
   have f0 : wr.frozen? ⟨g6,0,none⟩ = false:=blk_frozen HC.out.b6 0
   have z0 : wr.cell? ⟨g4,0,none⟩ = some (.slice none 0 0):=(blk_cell HC.out.b4 0).trans rfl
   have z1 : wr.cell? ⟨g4,1,none⟩ = some (.slice none 0 0):=(blk_cell HC.out.b4 1).trans rfl
   have y0 : wr.frozen? ⟨g4,0,none⟩ = false:=blk_frozen HC.out.b4 0
   have y1 : wr.frozen? ⟨g4,1,none⟩ = false:=blk_frozen HC.out.b4 1
   have hne:=HC.out.ne
   have hne':=hne.symm
   go_wp2_with fail
   obtain ⟨e1,e2,e3⟩:=HC.out.last
   rw [HPe.out] at e2
   exact bodyPost_ret (results_ct rfl _ _ g4 25 _ (0,0) _ rfl e1 Try.underlying25 rfl (by kernel_rfl)) rfl ⟨_,rfl,e2,e3⟩
  | succ g =>
   have hlt : i < Q.length:=by omega
   have hlt' : (i : Int) < (Q.length : Int):=by omega
   have h0 : 0 ≤ (i : Int):=by omega
   obtain ⟨adq,A1,c1,eq,hx0,hx1,hl1,hr1⟩:=at_T42 (rd_ (Kd.S_R HC.out.pend)).2.2 (i : Int) h0 hlt'
   subst eq
   rw [Int.toNat_natCast] at hx0 hx1
   obtain ⟨q1,q2,q3⟩:=HQ.out i hlt
   obtain ⟨pg,hpg⟩ : ∃ pg,pg = (rd_T42 Q (i : Int)).f0:=⟨_,rfl⟩
   obtain ⟨bs,hbs⟩ : ∃ bs,bs = (rd_T42 Q (i : Int)).f1:=⟨_,rfl⟩
   rw [← hpg] at hx0 q1 q2
   rw [← hbs] at hx1 hl1 hr1 q3
   rw [q3] at hx1
   have HR1:=A_ hr1
   have HPG:=A_ hpg
   have HBS:=A_ hbs
   have HL1:=A_ q3
   have HC1b:=A_ hl1
   clear hr1 hpg hbs q3 hl1
   go_upto_region 7 with (fail)
   have HC3:=A_ (HC.out.step (W1:=wr.alloc (.cells #[.int .i64 pg,.slice A1 64 c1] 42)) ((Below.refl _ _).alloc (Nat.le_refl _) _))
   have HK8:=A_ (heap_alloc_new wr (.cells #[.int .i64 pg,.slice A1 64 c1] 42))
   have HR3:=A_ (Kd.C_alloc HR1.out (.cells #[.int .i64 pg,.slice A1 64 c1] 42))
   clear HC HR1 hx0 hx1
   generalize hg8 : wr.heap.size = g8 at *
   generalize (wr.alloc (.cells #[.int .i64 pg,.slice A1 64 c1] 42)) = W2 at HC3 HK8 HR3 ⊢
   clear hg8
   obtain ⟨Pi,hPi⟩ : ∃ Pi,Pi = carr n Q P i:=⟨_,rfl⟩
   rw [← hPi] at HC3
   have hPil : Pi.length = P.length:=by rw [hPi];exact carr_len n Q P i
   have hPi64 : ∀ p ∈ Pi,p.length = 64:=by rw [hPi];exact carr_64 n Q P HP.out HN.out HQ.out i (by omega)
   have HPi:=A_ hPi
   clear hPi
   obtain ⟨adp,eap,_⟩:=(rd_ (Kd.S_R HC3.out.pages)).2.2.2.2 (by omega)
   subst eap
   obtain ⟨oki,cc,hcl1,hM,hcc,hoki,hput⟩:=Kd.S_borrow HC3.out.pages ([] : List Int) pg q1 q2
   obtain ⟨vp,rfl,hvp⟩:=hM
   have hpc:=hcc 0 vp rfl
   rw [show (Kd.slice 5 (Kd.int .u8)).sz = 1 from rfl,Nat.mul_one,Nat.add_zero] at hpc
   have hpl : (Pi.getD pg.toNat []).length = 64:=by
    have hlt2 : pg.toNat < Pi.length:=by omega
    rw [List.getD_eq_getElem?_getD,List.getElem?_eq_getElem hlt2]
    exact hPi64 _ (List.getElem_mem hlt2)
   obtain ⟨pp,hpp⟩ : ∃ pp,pp = Pi.getD pg.toNat []:=⟨_,rfl⟩
   rw [← hpp] at hvp hpl
   obtain ⟨Av,cv,rfl⟩:=Kd.R_slice hvp
   rw [hpl] at hvp hpc hput
   have HVP:=A_ hvp
   have HPUT:=A_ (@hput)
   have HOKI:=A_ hoki
   have HPP:=A_ hpp
   have HPL:=A_ hpl
   obtain ⟨z,hz⟩ : ∃ z,z = n i:=⟨_,rfl⟩
   have hz01:=HN.out i
   rw [← hz] at hz01
   have hcli:=fun W hb=>hcl.out i W hlt hb
   rw [← hz] at hcli
   have HZ:=A_ hz
   have HCL:=A_ hcli
   obtain ⟨hz0,hz1⟩:=hz01
   clear hvp hput hoki hpp hcc hcl1 hz hcli hPi64 hPil
   have hcut : ∀ W : World,(Instr.slice 26 (.slice A1 64 c1) none (some (.int .i64 z)) none).run Try.prog W = .ok (.slice A1 z.toNat c1) W:=by
    obtain ⟨i5,hi5,_,hsz5,_⟩:=info_parts info5
    have hh:=(print_take_int (P:=Try.prog) (k:=.u8) 26 5 Try.underlying26 hi5 hsz5 A1 c1 bs z hz0 (by have:=HL1.out;omega) HC1b.out).1
    intro W
    have h2:=hh W
    rw [List.length_take,HL1.out,Nat.min_eq_left (by omega)] at h2
    exact h2
   have hCt : Kd.C (Kd.int .u8) W2.drew A1 z.toNat (bs.take z.toNat):=by
    have h2:=Kd.C_take (m:=z.toNat) (Kd.C_drew HR3.out) (by have:=HL1.out;omega)
    rw [show (bs.take z.toNat).length = z.toNat by rw [List.length_take,HL1.out];omega] at h2
    exact h2
   have HCT:=A_ hCt
   have HNA:=A_ (show some adp.block≠(Value.slice Av 64 cv).ownBlock from fun he=>(HOKI.out _ (HVP.out.1 _ he.symm)).2 (by simp [Value.ownBlock]))
   have HN6:=A_ (Kd.R_ne HVP.out HC3.out.b6 (by decide))
   have HN8:=A_ (Kd.R_ne HVP.out HK8.out (by decide))
   clear hCt
   have k0 : W2.cell? ⟨g6,0,none⟩ = some (.slice (some adp) P.length cp):=(blk_cell HC3.out.b6 0).trans rfl
   have k2 : W2.cell? ⟨g8,0,none⟩ = some (.int .i64 pg):=(blk_cell HK8.out 0).trans rfl
   have k3 : W2.cell? ⟨g8,1,none⟩ = some (.slice A1 64 c1):=(blk_cell HK8.out 1).trans rfl
   go_region_held3 (fun W=>W.cell? ⟨g6,0,none⟩ = some (.slice (some adp) P.length cp)∧W.cell? ⟨g8,0,none⟩ = some (.int .i64 pg)∧W.cell? ⟨g8,1,none⟩ = some (.slice A1 64 c1)∧W.cell? (adp.add pg.toNat) = some (.slice Av 64 cv))
    (first|go_keep)
    (first|(go_at_call 27;refine (HCL.out _ (below_drew HC3.out.below)).mono ?_;rintro e w3 ⟨rfl,rfl⟩)|(refine XD.copy8_step rfl (.tmp 28) (.tmp 34) 26 26 5 rfl Try.underlying26 (by kernel_rfl) w.heap.size oki (.slice Av 64 cv) pp (bs.take z.toNat) A1 z.toNat c1 rfl rfl (Kd.R_drew HVP.out) ?hC ?hm ?_;(case hC=>exact HCT.out);(case hm=>have:=HPL.out;omega);intro w5 hR5 hg5;have HR5:=A_ hR5;have HG5:=A_ hg5;clear hR5 hg5;(have z0:=World.grownBy.cell HG5.out (a:=⟨g6,0,none⟩) k0 HN6.out);(have z2:=World.grownBy.cell HG5.out (a:=⟨g8,0,none⟩) k2 HN8.out);(have z3:=World.grownBy.cell HG5.out (a:=⟨g8,1,none⟩) k3 HN8.out);(have z4:=World.grownBy.cell HG5.out (a:=adp.add pg.toNat) hpc (by rw [add_block];exact HNA.out))))
   have HC5:=A_ (CarrH.put HC3.out HVP.out HOKI.out HPUT.out HR5.out ⟨HG5.out.os,HG5.out.tape,HG5.out.output,HG5.out.size,HG5.out.block⟩)
   clear HG5 HR5 HPUT HVP HC3 HK8 HR3 k0 k2 k3 z0 z2 z3 z4 hpc hcut HCT HOKI
   go_wp2_with fail
   go_roundg g
   case measure=>omega
   case rel =>
    refine ⟨i + 1,by omega,by first|rfl|simp,⟨?_⟩⟩
    rw [carr,← HPG.out,← HBS.out,← HPi.out,← HPP.out,← HZ.out]
    exact HC5.out
set_option maxHeartbeats 8000000 in
set_option maxRecDepth 100000 in
theorem carried_no (k : Nat) (A0_0 : Option Addr) (c0_0 : Nat) (l0_0 : List (List Int)) (A0_1 : Option Addr) (c0_1 : Nat) (l0_1 : List (S42)) (P : List (List Int)) (Q : List (S42)) (cl : Value) (w : World)
  (hr0_0 : Kd.C (Kd.slice 5 (Kd.int .u8)) w A0_0 l0_0.length l0_0) (hc0_0 : l0_0.length ≤ c0_0) (hr0_1 : Kd.C k42 w A0_1 l0_1.length l0_1) (hc0_1 : l0_1.length ≤ c0_1)
  (hcop : device_copied.f k l0_0 l0_1 = some (P,Q)) (hval : device_Valid.f k l0_0 l0_1 = some false) :
  Calls Try.prog 25 #[.agg #[.slice A0_0 l0_0.length c0_0,.slice A0_1 l0_1.length c0_1],cl] w fun e w'=>∃ v0_ v1_ : Value,e = .returned (.tuple #[.agg #[v0_,v1_],.int .i64 23])∧Kd.S (Kd.slice 5 (Kd.int .u8)) 26 w' w.heap.size (fun _=>True) v0_ P∧Kd.S k42 42 w' w.heap.size (fun _=>True) v1_ Q∧Below w.heap.size w w':=by
 have HCOP:=fun W (hb : Below w.heap.size w W)=>device_copied.calls2 k A0_0 c0_0 l0_0 A0_1 c0_1 l0_1 P Q W (Kd.C_below hr0_0 hb) hc0_0 (Kd.C_below hr0_1 hb) hc0_1 hcop
 have HVAL:=fun W (hb : Below w.heap.size w W)=>device_Valid.calls k A0_0 c0_0 l0_0 A0_1 c0_1 l0_1 false W (Kd.C_below hr0_0 hb) hc0_0 (Kd.C_below hr0_1 hb) hc0_1 hval
 have hC:=A_ HCOP
 have hV:=A_ HVAL
 clear HCOP HVAL hr0_0 hr0_1 hcop hval
 go_enter Try.func25,Try.ntmps25
 go_upto_region 1 with (fail)
 have HB0:=A_ (show Below w.heap.size w ((w.alloc (.cells #[.slice A0_0 l0_0.length c0_0,.slice A0_1 l0_1.length c0_1] 25)).alloc (.cells #[.slice none 0 0,.slice none 0 0] 25)) from ((Below.refl w.heap.size w).alloc (Nat.le_refl _) _).alloc (by simp) _)
 have HK2:=A_ (show ((w.alloc (.cells #[.slice A0_0 l0_0.length c0_0,.slice A0_1 l0_1.length c0_1] 25)).alloc (.cells #[.slice none 0 0,.slice none 0 0] 25)).heap[w.heap.size]? = some (.cells #[.slice A0_0 l0_0.length c0_0,.slice A0_1 l0_1.length c0_1] 25 (0,0)) from blk_alloc (heap_alloc_new w _) _)
 have HK4:=A_ (show ((w.alloc (.cells #[.slice A0_0 l0_0.length c0_0,.slice A0_1 l0_1.length c0_1] 25)).alloc (.cells #[.slice none 0 0,.slice none 0 0] 25)).heap[w.heap.size + 1]? = some (.cells #[.slice none 0 0,.slice none 0 0] 25 (0,0)) from by
  have:=heap_alloc_new (w.alloc (.cells #[.slice A0_0 l0_0.length c0_0,.slice A0_1 l0_1.length c0_1] 25)) (.cells #[.slice none 0 0,.slice none 0 0] 25)
  rwa [World.size_alloc] at this)
 generalize ((w.alloc (.cells #[.slice A0_0 l0_0.length c0_0,.slice A0_1 l0_1.length c0_1] 25)).alloc (.cells #[.slice none 0 0,.slice none 0 0] 25)) = W0 at HB0 HK2 HK4 ⊢
 have k0 : W0.cell? ⟨w.heap.size,0,none⟩ = some (.slice A0_0 l0_0.length c0_0):=(blk_cell HK2.out 0).trans rfl
 have k1 : W0.cell? ⟨w.heap.size,1,none⟩ = some (.slice A0_1 l0_1.length c0_1):=(blk_cell HK2.out 1).trans rfl
 go_wp2_with fail
 go_at_call 22
 refine (hC.out _ HB0.out).mono ?_
 rintro e w1 ⟨v0_,v1_,rfl,mid,hmid,hp,hq,hb1⟩
 obtain ⟨Ap,cp,rfl⟩:=Kd.S_slice hp
 obtain ⟨Aq,cq,rfl⟩:=Kd.S_slice hq
 have HB1:=A_ (below_step HB0.out hb1)
 have HK2b:=A_ (blk_below HK2.out hb1)
 have HK4b:=A_ (blk_below HK4.out hb1)
 have HP1:=A_ (Kd.S_lower hp (below_size HB0.out))
 have HQ1:=A_ hq
 have HM:=A_ (Nat.le_trans (below_size HB0.out) hmid)
 have h4:=blk_lt HK4b.out
 clear hb1 hp hq hmid k0 k1 HK2 HK4 HB0
 go_upto_region 2 with (fail)
 have hCH : CarrH w (w1.alloc (.cells #[.slice Ap P.length cp,.slice Aq Q.length cq] 25)) mid Ap P.length cp P Aq cq Q (w.heap.size + 1) w1.heap.size :=
  ⟨HB1.out.alloc HB1.out.size _,HM.out,Kd.S_alloc HP1.out _,Kd.S_alloc HQ1.out _,Nat.le_succ _,blk_alloc HK4b.out _,HB1.out.size,heap_alloc_new w1 _,Nat.ne_of_lt h4⟩
 have HC1:=A_ hCH
 have HK2c:=A_ (blk_alloc HK2b.out (.cells #[.slice Ap P.length cp,.slice Aq Q.length cq] 25))
 clear hCH HK2b HK4b HP1 HQ1 HM h4 HB1
 generalize (w1.alloc (.cells #[.slice Ap P.length cp,.slice Aq Q.length cq] 25)) = W1 at HC1 HK2c ⊢
 generalize w1.heap.size = g6 at HC1 ⊢
 obtain ⟨g4,hg4⟩ : ∃ g4,g4 = w.heap.size + 1:=⟨_,rfl⟩
 rw [← hg4] at HC1 ⊢
 clear hg4
 have k0 : W1.cell? ⟨w.heap.size,0,none⟩ = some (.slice A0_0 l0_0.length c0_0):=(blk_cell HK2c.out 0).trans rfl
 have k1 : W1.cell? ⟨w.heap.size,1,none⟩ = some (.slice A0_1 l0_1.length c0_1):=(blk_cell HK2c.out 1).trans rfl
 go_wp2_with fail
 go_at_call 19
 refine (hV.out _ HC1.out.below).mono ?_
 rintro e w2 ⟨rfl,hb2⟩
 have HC:=A_ (HC1.out.step hb2)
 clear k0 k1 hb2 HC1 HK2c
 have k0 : w2.cell? ⟨g6,0,none⟩ = some (.slice Ap P.length cp):=(blk_cell HC.out.b6 0).trans rfl
 have k1 : w2.cell? ⟨g6,1,none⟩ = some (.slice Aq Q.length cq):=(blk_cell HC.out.b6 1).trans rfl
 have f1 : w2.frozen? ⟨g6,1,none⟩ = false:=blk_frozen HC.out.b6 1
 have f0 : w2.frozen? ⟨g6,0,none⟩ = false:=blk_frozen HC.out.b6 0
 have z0 : w2.cell? ⟨g4,0,none⟩ = some (.slice none 0 0):=(blk_cell HC.out.b4 0).trans rfl
 have z1 : w2.cell? ⟨g4,1,none⟩ = some (.slice none 0 0):=(blk_cell HC.out.b4 1).trans rfl
 have y0 : w2.frozen? ⟨g4,0,none⟩ = false:=blk_frozen HC.out.b4 0
 have y1 : w2.frozen? ⟨g4,1,none⟩ = false:=blk_frozen HC.out.b4 1
 have hne:=HC.out.ne
 have hne':=hne.symm
 go_wp2_with fail
 have e1:=blk_set (blk_set HC.out.b4 0 (.slice Ap P.length cp)) 1 (.slice Aq Q.length cq)
 exact bodyPost_ret (results_ct rfl _ _ g4 25 _ (0,0) _ rfl e1 Try.underlying25 rfl (by kernel_rfl)) rfl ⟨_,_,rfl,Kd.S_mono (Kd.S_set (Kd.S_set HC.out.pages HC.out.b4 (by decide) 0 _) (blk_set HC.out.b4 0 _) (by decide) 1 _) (fun _ _=>trivial),Kd.S_lower (Kd.S_set (Kd.S_set HC.out.pend HC.out.b4 (by decide) 0 _) (blk_set HC.out.b4 0 _) (by decide) 1 _) HC.out.hmid,(HC.out.below.setCell HC.out.z4 _).setCell HC.out.z4 _⟩
def device_Crash.f (k : Nat) (l0_0 : List (List Int)) (l0_1 : List (S42)) (l1 : List Int) : Option ((List (List Int)) × (List (S42)) × Int):=(device_copied.f k l0_0 l0_1).bind fun t=>(device_Valid.f k l0_0 l0_1).bind fun v=>if v = true then (if fit t.1 t.2 = true then some (carr (XD.keepAt l1) t.2 t.1 t.2.length,[],0) else none) else some (t.1,t.2,23)
theorem device_Crash.mono : ∀ a0 a1 a2 k,LeO (device_Crash.f k a0 a1 a2) (device_Crash.f (k + 1) a0 a1 a2):=by
 intro a0 a1 a2 k
 unfold device_Crash.f
 exact LeO.bind (device_copied.mono _ _ _) (fun _=>LeO.bind (device_Valid.mono _ _ _) (fun _=>LeO.refl _))
set_option maxHeartbeats 8000000 in
set_option maxRecDepth 100000 in
theorem crash_ok (A0_0 : Option Addr) (c0_0 n0 : Nat) (A0_1 : Option Addr) (c0_1 n1 : Nat) (A1 : Option Addr) (n2 c1 : Nat) (r1 : List (List Int)) (r2 : List (S42)) (r3 : Int) (w : World)
  (h : Aside0 (∀ (g : Nat) (W : World),w.heap.size ≤ g → Below w.heap.size w W → W.heap[g]? = some (.cells #[.slice A1 n2 c1] 27 (0,0)) → Calls Try.prog 25 #[.agg #[.slice A0_0 n0 c0_0,.slice A0_1 n1 c0_1],.func (.func 27) #[] #[.pointer (some ⟨g,0,none⟩)]] W fun e w'=>∃ v0_ v1_ : Value,e = .returned (.tuple #[.agg #[v0_,v1_],.int .i64 r3])∧Kd.S (Kd.slice 5 (Kd.int .u8)) 26 w' W.heap.size (fun _=>True) v0_ r1∧Kd.S k42 42 w' W.heap.size (fun _=>True) v1_ r2∧Below W.heap.size W w')) :
  Calls Try.prog 17 #[.agg #[.slice A0_0 n0 c0_0,.slice A0_1 n1 c0_1],.slice A1 n2 c1] w fun e w'=>∃ v0_ v1_ : Value,e = .returned (.tuple #[.agg #[v0_,v1_],.int .i64 r3])∧Kd.S (Kd.slice 5 (Kd.int .u8)) 26 w' w.heap.size (fun _=>True) v0_ r1∧Kd.S k42 42 w' w.heap.size (fun _=>True) v1_ r2∧Below w.heap.size w w':=by
 have hmf : ∀ (fn : Fn) (first cap : Array Value) (w : World),(Instr.makeFunc fn first cap).run Try.prog w = .ok (.func fn first cap) w:=fun _ _ _ _=>rfl
 go_enter Try.func17,Try.ntmps17
 go_upto_region 1 with (fail)
 obtain ⟨W0,hW0⟩ : ∃ W0,W0 = (((w.alloc (.cells #[.slice A0_0 n0 c0_0,.slice A0_1 n1 c0_1] 25)).alloc (.cells #[.slice A1 n2 c1] 27)).alloc (.cells #[.slice none 0 0,.slice none 0 0] 25)):=⟨_,rfl⟩
 have HB0:=A_ (show Below w.heap.size w W0 from by rw [hW0];exact (((Below.refl w.heap.size w).alloc (Nat.le_refl _) _).alloc (by simp) _).alloc (by simp;omega) _)
 have HK2:=A_ (show W0.heap[w.heap.size]? = some (.cells #[.slice A0_0 n0 c0_0,.slice A0_1 n1 c0_1] 25 (0,0)) from by rw [hW0];exact blk_alloc (blk_alloc (heap_alloc_new w _) _) _)
 have HK3:=A_ (show W0.heap[w.heap.size + 1]? = some (.cells #[.slice A1 n2 c1] 27 (0,0)) from by
  rw [hW0]
  have:=blk_alloc (heap_alloc_new (w.alloc (.cells #[.slice A0_0 n0 c0_0,.slice A0_1 n1 c0_1] 25)) (.cells #[.slice A1 n2 c1] 27)) (.cells #[.slice none 0 0,.slice none 0 0] 25)
  rwa [World.size_alloc] at this)
 have HK4:=A_ (show W0.heap[w.heap.size + 2]? = some (.cells #[.slice none 0 0,.slice none 0 0] 25 (0,0)) from by
  rw [hW0]
  have:=heap_alloc_new ((w.alloc (.cells #[.slice A0_0 n0 c0_0,.slice A0_1 n1 c0_1] 25)).alloc (.cells #[.slice A1 n2 c1] 27)) (.cells #[.slice none 0 0,.slice none 0 0] 25)
  rwa [World.size_alloc,World.size_alloc] at this)
 rw [← hW0]
 clear hW0
 obtain ⟨g4,hg4⟩ : ∃ g4,g4 = w.heap.size + 1 + 1:=⟨_,rfl⟩
 have hgl : w.heap.size ≤ g4:=by omega
 rw [show w.heap.size + 2 = g4 by omega] at HK4
 rw [← hg4]
 clear hg4
 have k0 : W0.cell? ⟨w.heap.size,0,none⟩ = some (.slice A0_0 n0 c0_0):=(blk_cell HK2.out 0).trans rfl
 have k1 : W0.cell? ⟨w.heap.size,1,none⟩ = some (.slice A0_1 n1 c0_1):=(blk_cell HK2.out 1).trans rfl
 go_wp2_with fail
 go_at_call 25
 refine (h.out _ _ (Nat.le_succ _) HB0.out HK3.out).mono ?_
 rintro e w1 ⟨v0_,v1_,rfl,hp,hq,hb1⟩
 obtain ⟨Ap,cp,rfl⟩:=Kd.S_slice hp
 obtain ⟨Aq,cq,rfl⟩:=Kd.S_slice hq
 have HB1:=A_ (below_step HB0.out hb1)
 have HK5:=A_ (blk_below HK4.out hb1)
 have HP1:=A_ (Kd.S_lower hp HB0.out.size)
 have HQ1:=A_ (Kd.S_lower hq HB0.out.size)
 have HGL:=A_ hgl
 clear hb1 hp hq k0 k1 HK2 HK3 HK4 HB0 hgl
 have z0 : w1.cell? ⟨g4,0,none⟩ = some (.slice none 0 0):=(blk_cell HK5.out 0).trans rfl
 have z1 : w1.cell? ⟨g4,1,none⟩ = some (.slice none 0 0):=(blk_cell HK5.out 1).trans rfl
 have y0 : w1.frozen? ⟨g4,0,none⟩ = false:=blk_frozen HK5.out 0
 have y1 : w1.frozen? ⟨g4,1,none⟩ = false:=blk_frozen HK5.out 1
 go_wp2_with fail
 have e1:=blk_set (blk_set HK5.out 0 (.slice Ap r1.length cp)) 1 (.slice Aq r2.length cq)
 exact bodyPost_ret (results_ct rfl _ _ g4 25 _ (0,0) _ rfl e1 Try.underlying25 rfl (by kernel_rfl)) rfl ⟨_,_,rfl,Kd.S_set (Kd.S_set HP1.out HK5.out (by decide) 0 _) (blk_set HK5.out 0 _) (by decide) 1 _,Kd.S_set (Kd.S_set HQ1.out HK5.out (by decide) 0 _) (blk_set HK5.out 0 _) (by decide) 1 _,(HB1.out.setCell HGL.out _).setCell HGL.out _⟩
theorem keepAt_range (l : List Int) (i : Nat) : 0 ≤ XD.keepAt l i∧XD.keepAt l i ≤ 64:=by
 unfold XD.keepAt
 split <;> omega
theorem device_Crash.calls (k : Nat) (A0_0 : Option Addr) (c0_0 : Nat) (l0_0 : List (List Int)) (A0_1 : Option Addr) (c0_1 : Nat) (l0_1 : List (S42)) (A1 : Option Addr) (c1 : Nat) (l1 : List Int) (r1 : List (List Int)) (r2 : List (S42)) (r3 : Int) (w : World) (hr0_0 : Kd.C (Kd.slice 5 (Kd.int .u8)) w A0_0 l0_0.length l0_0) (hc0_0 : l0_0.length ≤ c0_0) (hr0_1 : Kd.C k42 w A0_1 l0_1.length l0_1) (hc0_1 : l0_1.length ≤ c0_1) (hr1 : Kd.C (Kd.int .i64) w A1 l1.length l1) (hc1 : l1.length ≤ c1) (h : device_Crash.f k l0_0 l0_1 l1 = some (r1,r2,r3)) :
  Calls Try.prog 17 #[.agg #[.slice A0_0 l0_0.length c0_0,.slice A0_1 l0_1.length c0_1],.slice A1 l1.length c1] w fun e w'=>∃ v0_ v1_ : Value,e = .returned (.tuple #[.agg #[v0_,v1_],.int .i64 r3])∧Kd.S (Kd.slice 5 (Kd.int .u8)) 26 w' w.heap.size (fun _=>True) v0_ r1∧Kd.S k42 42 w' w.heap.size (fun _=>True) v1_ r2∧Below w.heap.size w w':=by
 obtain ⟨⟨P,Q⟩,ht,h⟩:=Option.bind_eq_some_iff.mp h
 obtain ⟨v,hv,h⟩:=Option.bind_eq_some_iff.mp h
 refine crash_ok A0_0 c0_0 l0_0.length A0_1 c0_1 l0_1.length A1 l1.length c1 r1 r2 r3 w ⟨fun g W hg hb hcell=>?_⟩
 have e0:=Kd.C_below hr0_0 hb
 have e1:=Kd.C_below hr0_1 hb
 cases v with
 | false =>
  replace h : some (P,Q,(23 : Int)) = some (r1,r2,r3):=h
  cases h
  exact carried_no k A0_0 c0_0 l0_0 A0_1 c0_1 l0_1 r1 r2 _ W e0 hc0_0 e1 hc0_1 ht hv
 | true =>
  replace h : (if fit P Q = true then some (carr (XD.keepAt l1) Q P Q.length,[],(0 : Int)) else none) = some (r1,r2,r3):=h
  by_cases hf : fit P Q = true
  ·
   rw [if_pos hf] at h
   cases h
   obtain ⟨f1,f2,f3⟩:=fit_is hf
   exact (carried_yes2 g (XD.keepAt l1) k A0_0 c0_0 l0_0 A0_1 c0_1 l0_1 P Q W e0 hc0_0 e1 hc0_1 ht hv f1 f2 f3 (keepAt_range l1) ⟨fun i W1 _ hb1=>XD.crash1_calls g A1 c1 l1 i W1 (blk_below hcell hb1) (Kd.C_below (Kd.C_below hr1 hb) hb1)⟩).mono fun e w' ⟨v0,z1,z2,z3⟩=>⟨v0,_,z1,z2,Kd.S_nil _ _ _ _ _,z3⟩
  ·
   rw [if_neg hf] at h
   cases h

end Go.Proofs.Ythpiafbloebpjaa.PDeviceSteps
