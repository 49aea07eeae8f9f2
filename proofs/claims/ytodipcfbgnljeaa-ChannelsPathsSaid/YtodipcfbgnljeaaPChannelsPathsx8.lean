/- This file proves, function by function, what the Go functions that one law uses compute; most of it was printed by a program (wip/tools of this session, over the kit's print). -/
import Derived.Test.YtodipcfbgnljeaaPChannelsPathsx0
import Derived.Test.YtodipcfbgnljeaaPChannelsPathsx4
import Derived.Test.YtodipcfbgnljeaaPChannelsPathsx7
namespace Go.Proofs.Ytodipcfbgnljeaa.PChannelsPaths
open Go.RowKit Go.Proofs.YtodipcfbgnljeaaW.PrintWords Go.Proofs.YtodipcfbgnljeaaW.PrintLast Go.Proofs.YtodipcfbgnljeaaW.PrintMore
attribute [local go_sem] max2_int min2_int max_two min_two max_three min_three max_four min_four   -- for this text's walks alone
set_option linter.unusedVariables false
set_option linter.unusedSimpArgs false

/-! ### channels_Euclid: function 14 -/
mutual
def channels_Euclid.l0 : Nat → List (List Int) → List (List Int) → Int → Int → Int → Option (Int × Int)
 | 0,_,_,_,_,_=>none
 | k + 1,x0,x1,x7,x18,x19=>if x19 < x18 then (if 0 ≤ x19 then (if x19 < (x0.length : Int) then (channels_Euclid.l1 k x0 x1 x7 x19 x18 x19 (rd_L1 x0 x19) ((rd_L1 x0 x19).length : Int) 0) else (none)) else (none)) else (some (x7,0))
def channels_Euclid.l1 : Nat → List (List Int) → List (List Int) → Int → Int → Int → Int → List Int → Int → Int → Option (Int × Int)
 | 0,_,_,_,_,_,_,_,_,_=>none
 | k + 1,x0,x1,x7,x8,x18,x19,x25,x26,x27=>if x27 < x26 then (if 0 ≤ x27 then (if x27 < (x25.length : Int) then (if 0 ≤ x8 then (if x8 < (x1.length : Int) then (if x27 < ((rd_L1 x1 x8).length : Int) then ((channels_square.f (rd x25 x27) (rd (rd_L1 x1 x8) x27)).bind fun t310=>(channels_Euclid.l1 k x0 x1 (wrap64 (x7 + t310)) x8 x18 x19 x25 x26 (wrap64 (x27 + 1)))) else (none)) else (none)) else (none)) else (none)) else (none)) else (channels_Euclid.l0 k x0 x1 x7 x18 (wrap64 (x19 + 1)))
end
def channels_Euclid.f (k : Nat) (l0 : List (List Int)) (l1 : List (List Int)) : Option (Int × Int):=(channels_check.f k l0 l1 0).bind fun t305=>(if t305 = 0 then (channels_Euclid.l0 k l0 l1 0 (l0.length : Int) 0) else (some (0,t305)))
theorem channels_Euclid.mono_l : ∀ k,(∀ y0 y1 y2 y3 y4,LeO (channels_Euclid.l0 k y0 y1 y2 y3 y4) (channels_Euclid.l0 (k + 1) y0 y1 y2 y3 y4))∧(∀ y0 y1 y2 y3 y4 y5 y6 y7 y8,LeO (channels_Euclid.l1 k y0 y1 y2 y3 y4 y5 y6 y7 y8) (channels_Euclid.l1 (k + 1) y0 y1 y2 y3 y4 y5 y6 y7 y8))
 | 0=>⟨fun _ _ _ _ _ r h=>by simp [channels_Euclid.l0] at h,fun _ _ _ _ _ _ _ _ _ r h=>by simp [channels_Euclid.l1] at h⟩
 | k + 1=>by
  obtain ⟨ih0,ih1⟩:=channels_Euclid.mono_l k
  refine ⟨?_,?_⟩
  ·
   intro y0 y1 y2 y3 y4
   unfold channels_Euclid.l0
   repeat' first
   | (with_reducible exact ih0 _ _ _ _ _)
   | (with_reducible exact ih1 _ _ _ _ _ _ _ _ _)
   | (with_reducible exact channels_check.mono _ _ _ _)
   | (with_reducible exact LeO.refl _)
   | (with_reducible exact LeO.none _)
   | (with_reducible refine LeO.ite ?_ ?_)
   | (with_reducible refine LeO.bind ?_ (fun _=>?_))
   | exact ih0 _ _ _ _ _
   | exact ih1 _ _ _ _ _ _ _ _ _
   | exact channels_check.mono _ _ _ _
   | exact LeO.none _
   | refine LeO.ite ?_ ?_
   | refine LeO.bind ?_ (fun _=>?_)
  ·
   intro y0 y1 y2 y3 y4 y5 y6 y7 y8
   unfold channels_Euclid.l1
   repeat' first
   | (with_reducible exact ih0 _ _ _ _ _)
   | (with_reducible exact ih1 _ _ _ _ _ _ _ _ _)
   | (with_reducible exact channels_check.mono _ _ _ _)
   | (with_reducible exact LeO.refl _)
   | (with_reducible exact LeO.none _)
   | (with_reducible refine LeO.ite ?_ ?_)
   | (with_reducible refine LeO.bind ?_ (fun _=>?_))
   | exact ih0 _ _ _ _ _
   | exact ih1 _ _ _ _ _ _ _ _ _
   | exact channels_check.mono _ _ _ _
   | exact LeO.none _
   | refine LeO.ite ?_ ?_
   | refine LeO.bind ?_ (fun _=>?_)
theorem channels_Euclid.mono : ∀ a0 a1 k,LeO (channels_Euclid.f k a0 a1) (channels_Euclid.f (k + 1) a0 a1):=by
 intro a0 a1 k
 obtain ⟨ih0,ih1⟩:=channels_Euclid.mono_l k
 unfold channels_Euclid.f
 repeat' first
   | (with_reducible exact ih0 _ _ _ _ _)
   | (with_reducible exact ih1 _ _ _ _ _ _ _ _ _)
   | (with_reducible exact channels_check.mono _ _ _ _)
   | (with_reducible exact LeO.refl _)
   | (with_reducible exact LeO.none _)
   | (with_reducible refine LeO.ite ?_ ?_)
   | (with_reducible refine LeO.bind ?_ (fun _=>?_))
   | exact ih0 _ _ _ _ _
   | exact ih1 _ _ _ _ _ _ _ _ _
   | exact channels_check.mono _ _ _ _
   | exact LeO.none _
   | refine LeO.ite ?_ ?_
   | refine LeO.bind ?_ (fun _=>?_)
set_option maxHeartbeats 8000000 in
set_option maxRecDepth 100000 in
theorem channels_Euclid.calls (k : Nat) (A0 : Option Addr) (c0 : Nat) (l0 : List (List Int)) (A1 : Option Addr) (c1 : Nat) (l1 : List (List Int)) (r1 : Int) (r2 : Int) (w : World) (hr0 : Kd.C (Kd.slice 3 (Kd.int .i64)) w A0 l0.length l0) (hc0 : l0.length ≤ c0) (hr1 : Kd.C (Kd.slice 3 (Kd.int .i64)) w A1 l1.length l1) (hc1 : l1.length ≤ c1) (h : channels_Euclid.f k l0 l1 = some (r1,r2)) :
  Calls Try.prog 14 #[.slice A0 l0.length c0,.slice A1 l1.length c1] w fun e w'=>e = .returned (.tuple #[.int .i64 r1,.int .i64 r2])∧Below w.heap.size w w':=by
 have HR0:=A_ hr0
 have HC0:=A_ hc0
 clear hr0 hc0
 have HR1:=A_ hr1
 have HC1:=A_ hc1
 clear hr1 hc1
 have HB:=A_ (Below.refl w.heap.size w)
 have H : ((channels_check.f k l0 l1 0).bind fun t305=>(if t305 = 0 then (channels_Euclid.l0 k l0 l1 0 (l0.length : Int) 0) else (some (0,t305)))) = some (r1,r2):=h
 clear h
 replace H:=Option.bind_eq_some_iff.mp H
 obtain ⟨t305,A30,H⟩:=H
 replace H : (if t305 = 0 then (channels_Euclid.l0 k l0 l1 0 (l0.length : Int) 0) else (some (0,t305))) = some (r1,r2):=H
 have A3:=A_ A30
 clear A30
 by_cases c4 : t305 = 0
 ·
  rw [if_pos c4] at H
  have c4b0 : (t305 == 0) = true:=beq_iff_eq.mpr c4
  have c4b1 : (t305 != 0) = false:=bne_eq_false_iff_eq.mpr c4
  clear c4
  have H':=A_ H
  clear H
  go_enter Try.func14,Try.ntmps14
  go_wp2_with (first|((with_reducible refine gate_callee (f:=32) rfl ?_);refine goesL_ (some 13) rfl rfl Try.func32 (by kernel_rfl) rfl #[.slice A0 l0.length c0,.slice A1 l1.length c1,.int .i64 0] rfl (by (try simp only [List.map_toArray,List.map_cons,List.map_nil]);first|done|rfl|(simp only [List.length_drop,List.length_take];rfl)) ?_;(with_reducible refine (channels_check.calls k _ _ l0 _ _ l1 0 t305 _ ?side1 ?side2 ?side3 ?side4 A3.out).mono ?_);(case side1=>repeat (first|exact HR0.out|(with_reducible refine ca ?_ _)|(with_reducible refine cb ?_ _)|(with_reducible refine cc ?_)));(case side2=>exact HC0.out);(case side3=>repeat (first|exact HR1.out|(with_reducible refine ca ?_ _)|(with_reducible refine cb ?_ _)|(with_reducible refine cc ?_)));(case side4=>exact HC1.out);rintro e w5 ⟨rfl,hb⟩;refine ⟨_,rfl,?_⟩;have n0_:=A_ (below_step (by repeat (first|(with_reducible first|exact HB.out|apply ba|apply bb|apply bc)|exact HB.out)) hb);clear HB;have HB:=n0_;clear n0_;(try clear hb);(try clear hb2);(try clear hk);(try clear hi)))
  go_loopg [7,19] k (fun kq v7 v19 w'=>∃ (x7_1 : Int) (x19_1 : Int),v7 = .int .i64 x7_1∧v19 = .int .i64 x19_1∧Aside0 (channels_Euclid.l0 kq l0 l1 x7_1 (l0.length : Int) x19_1 = some (r1,r2))∧Aside0 (kq ≤ k)∧Aside0 (Below w.heap.size w w'))
  case atStart=>exact ⟨(0),(0),(by first|rfl|(simp;done)|(simp [*];done)),(by first|rfl|(simp;done)|(simp [*];done)),H',⟨Nat.le_refl _⟩,⟨by repeat (first|(with_reducible first|exact HB.out|apply ba|apply bb|apply bc)|exact HB.out)⟩⟩
  case round =>
   clear H'
   try clear c1
   try clear p2
   try clear c3
   try clear c4
   try clear c4b0
   try clear c4b1
   obtain ⟨x7_1,x19_1,rfl,rfl,HA,HK1,HB⟩:=hrel
   cases gk with
   | zero=>exact absurd HA.out (by simp [channels_Euclid.l0])
   | succ k1 =>
    have H:=HA.out
    clear HA
    simp only [channels_Euclid.l0] at H
    by_cases c6 : x19_1 < (l0.length : Int)
    ·
     rw [if_pos c6] at H
     have c6b0 : decide (x19_1 < (l0.length : Int)) = true:=decide_eq_true c6
     clear c6
     by_cases c7 : 0 ≤ x19_1
     ·
      rw [if_pos c7] at H
      have c7b0 : decide (0 ≤ x19_1) = true:=decide_eq_true c7
      clear c7
      by_cases c8 : x19_1 < (l0.length : Int)
      ·
       rw [if_pos c8] at H
       have c8b0 : decide (x19_1 < (l0.length : Int)) = true:=decide_eq_true c8
       clear c8
       have H':=A_ H
       clear H
       have p306 : 0 ≤ (x19_1 : Int):=of_decide_eq_true (by first|(with_reducible assumption)|assumption)
       have q306 : x19_1 < (l0.length : Int):=of_decide_eq_true (by first|(with_reducible assumption)|assumption)
       obtain ⟨ad306,A306_0,c306_0,e306,hx306_0,hl306_0,hi306_0⟩:=at_L1 HR0.out x19_1 p306 q306
       cases e306
       replace hx306_0:=(HB.out.cell (World.block_lt_of_cell? w _ hx306_0)).trans hx306_0
       have HR306_0:=A_ hi306_0
       have HC306_0:=A_ hl306_0
       clear hi306_0 hl306_0
       replace p306:=eq_true p306
       replace q306:=eq_true q306
       go_wp2
       go_loopg [7,27] k1 (fun kq v7 v27 w'=>∃ (x7_2 : Int) (x27_2 : Int),v7 = .int .i64 x7_2∧v27 = .int .i64 x27_2∧Aside0 (channels_Euclid.l1 kq l0 l1 x7_2 x19_1 (l0.length : Int) x19_1 (rd_L1 l0 x19_1) ((rd_L1 l0 x19_1).length : Int) x27_2 = some (r1,r2))∧Aside0 (kq ≤ k1)∧Aside0 (Below w.heap.size w w'))
       case atStart=>exact ⟨(x7_1),(0),(by first|rfl|(simp;done)|(simp [*];done)),(by first|rfl|(simp;done)|(simp [*];done)),H',⟨Nat.le_refl _⟩,⟨by repeat (first|(with_reducible first|exact HB.out|apply ba|apply bb|apply bc)|exact HB.out)⟩⟩
       case round =>
        clear H'
        try clear c1
        try clear p2
        try clear c3
        try clear p3
        try clear q3
        try clear hx3
        try clear c4
        try clear c4b0
        try clear c4b1
        try clear c6
        try clear c6b0
        try clear c7
        try clear c7b0
        try clear c8
        try clear c8b0
        try clear hx306_0
        try clear p2
        try clear p306
        try clear q306
        obtain ⟨x7_2,x27_2,rfl,rfl,HA,HK2,HB⟩:=hrel
        cases gk with
        | zero=>exact absurd HA.out (by simp [channels_Euclid.l1])
        | succ k2 =>
         have H:=HA.out
         clear HA
         simp only [channels_Euclid.l1] at H
         by_cases c9 : x27_2 < ((rd_L1 l0 x19_1).length : Int)
         ·
          rw [if_pos c9] at H
          have c9b0 : decide (x27_2 < ((rd_L1 l0 x19_1).length : Int)) = true:=decide_eq_true c9
          clear c9
          by_cases c10 : 0 ≤ x27_2
          ·
           rw [if_pos c10] at H
           have c10b0 : decide (0 ≤ x27_2) = true:=decide_eq_true c10
           clear c10
           by_cases c11 : x27_2 < ((rd_L1 l0 x19_1).length : Int)
           ·
            rw [if_pos c11] at H
            have c11b0 : decide (x27_2 < ((rd_L1 l0 x19_1).length : Int)) = true:=decide_eq_true c11
            clear c11
            by_cases c12 : 0 ≤ x19_1
            ·
             rw [if_pos c12] at H
             have c12b0 : decide (0 ≤ x19_1) = true:=decide_eq_true c12
             clear c12
             by_cases c13 : x19_1 < (l1.length : Int)
             ·
              rw [if_pos c13] at H
              have c13b0 : decide (x19_1 < (l1.length : Int)) = true:=decide_eq_true c13
              clear c13
              by_cases c14 : x27_2 < ((rd_L1 l1 x19_1).length : Int)
              ·
               rw [if_pos c14] at H
               have c14b0 : decide (x27_2 < ((rd_L1 l1 x19_1).length : Int)) = true:=decide_eq_true c14
               clear c14
               replace H:=Option.bind_eq_some_iff.mp H
               obtain ⟨t310,A150,H⟩:=H
               replace H : (channels_Euclid.l1 k2 l0 l1 (wrap64 (x7_2 + t310)) x19_1 (l0.length : Int) x19_1 (rd_L1 l0 x19_1) ((rd_L1 l0 x19_1).length : Int) (wrap64 (x27_2 + 1))) = some (r1,r2):=H
               have A15:=A_ A150
               clear A150
               have H':=A_ H
               clear H
               have p307 : 0 ≤ (x27_2 : Int):=of_decide_eq_true (by first|(with_reducible assumption)|assumption)
               have q307 : x27_2 < ((rd_L1 l0 x19_1).length : Int):=of_decide_eq_true (by first|(with_reducible assumption)|assumption)
               obtain ⟨ad307,e307,hx307_0⟩:=Kd.at_int HR306_0.out x27_2 p307 q307
               cases e307
               replace hx307_0:=(HB.out.cell (World.block_lt_of_cell? w _ hx307_0)).trans hx307_0
               replace p307:=eq_true p307
               replace q307:=eq_true q307
               have p308 : 0 ≤ (x19_1 : Int):=of_decide_eq_true (by first|(with_reducible assumption)|assumption)
               have q308 : x19_1 < (l1.length : Int):=of_decide_eq_true (by first|(with_reducible assumption)|assumption)
               obtain ⟨ad308,A308_0,c308_0,e308,hx308_0,hl308_0,hi308_0⟩:=at_L1 HR1.out x19_1 p308 q308
               cases e308
               replace hx308_0:=(HB.out.cell (World.block_lt_of_cell? w _ hx308_0)).trans hx308_0
               have HR308_0:=A_ hi308_0
               have HC308_0:=A_ hl308_0
               clear hi308_0 hl308_0
               replace p308:=eq_true p308
               replace q308:=eq_true q308
               have p309 : 0 ≤ (x27_2 : Int):=of_decide_eq_true (by first|(with_reducible assumption)|assumption)
               have q309 : x27_2 < ((rd_L1 l1 x19_1).length : Int):=of_decide_eq_true (by first|(with_reducible assumption)|assumption)
               obtain ⟨ad309,e309,hx309_0⟩:=Kd.at_int HR308_0.out x27_2 p309 q309
               cases e309
               replace hx309_0:=(HB.out.cell (World.block_lt_of_cell? w _ hx309_0)).trans hx309_0
               replace p309:=eq_true p309
               replace q309:=eq_true q309
               go_wp2_with (first|((with_reducible refine gate_callee (f:=34) rfl ?_);refine goesL_ (some 41) rfl rfl Try.func34 (by kernel_rfl) rfl #[.int .i64 (rd (rd_L1 l0 x19_1) x27_2),.int .i64 (rd (rd_L1 l1 x19_1) x27_2)] rfl (by (try simp only [List.map_toArray,List.map_cons,List.map_nil]);first|done|rfl|(simp only [List.length_drop,List.length_take];rfl)) ?_;(with_reducible refine (channels_square.calls (rd (rd_L1 l0 x19_1) x27_2) (rd (rd_L1 l1 x19_1) x27_2) t310 _ A15.out).mono ?_);rintro e w' ⟨rfl,⟨nd,rfl⟩⟩;refine ⟨_,rfl,?_⟩))
               go_roundg k2
               case measure=>have:=HK1.out;have:=HK2.out;omega
               case rel=>exact ⟨(wrap64 (x7_2 + t310)),(wrap64 (x27_2 + 1)),(by first|rfl|(simp;done)|(simp [*];done)),(by first|rfl|(simp;done)|(simp [*];done)),H',⟨by have:=HK1.out;have:=HK2.out;omega⟩,⟨by repeat (first|(with_reducible first|exact HB.out|apply ba|apply bb|apply bc)|exact HB.out)⟩⟩
              ·
               rw [if_neg c14] at H
               exact absurd H (by simp)
             ·
              rw [if_neg c13] at H
              exact absurd H (by simp)
            ·
             rw [if_neg c12] at H
             exact absurd H (by simp)
           ·
            rw [if_neg c11] at H
            exact absurd H (by simp)
          ·
           rw [if_neg c10] at H
           exact absurd H (by simp)
         ·
          rw [if_neg c9] at H
          have c9b0 : decide (x27_2 < ((rd_L1 l0 x19_1).length : Int)) = false:=decide_eq_false c9
          clear c9
          have H':=A_ H
          clear H
          go_wp2
          go_roundg k2
          case measure=>have:=HK1.out;have:=HK2.out;omega
          case rel=>exact ⟨(x7_2),(wrap64 (x19_1 + 1)),(by first|rfl|(simp;done)|(simp [*];done)),(by first|rfl|(simp;done)|(simp [*];done)),H',⟨by have:=HK1.out;have:=HK2.out;omega⟩,⟨by repeat (first|(with_reducible first|exact HB.out|apply ba|apply bb|apply bc)|exact HB.out)⟩⟩
      ·
       rw [if_neg c8] at H
       exact absurd H (by simp)
     ·
      rw [if_neg c7] at H
      exact absurd H (by simp)
    ·
     rw [if_neg c6] at H
     have c6b0 : decide (x19_1 < (l0.length : Int)) = false:=decide_eq_false c6
     clear c6
     simp only [Option.some.injEq,Prod.mk.injEq] at H
     obtain ⟨rfl,rfl⟩:=H
     go_wp2
     go_ret2
     exact ⟨by first|rfl|(simp [errW_none,errW_some] <;> rfl)|(simp [*,errW_none,errW_some] <;> rfl),by repeat (first|(with_reducible first|exact HB.out|apply ba|apply bb|apply bc)|exact HB.out)⟩
 ·
  rw [if_neg c4] at H
  have c4b0 : (t305 == 0) = false:=beq_eq_false_iff_ne.mpr c4
  have c4b1 : (t305 != 0) = true:=bne_iff_ne.mpr c4
  simp only [Option.some.injEq,Prod.mk.injEq] at H
  obtain ⟨rfl,rfl⟩:=H
  go_enter Try.func14,Try.ntmps14
  go_wp2_with (first|((with_reducible refine gate_callee (f:=32) rfl ?_);refine goesL_ (some 13) rfl rfl Try.func32 (by kernel_rfl) rfl #[.slice A0 l0.length c0,.slice A1 l1.length c1,.int .i64 0] rfl (by (try simp only [List.map_toArray,List.map_cons,List.map_nil]);first|done|rfl|(simp only [List.length_drop,List.length_take];rfl)) ?_;(with_reducible refine (channels_check.calls k _ _ l0 _ _ l1 0 t305 _ ?side1 ?side2 ?side3 ?side4 A3.out).mono ?_);(case side1=>repeat (first|exact HR0.out|(with_reducible refine ca ?_ _)|(with_reducible refine cb ?_ _)|(with_reducible refine cc ?_)));(case side2=>exact HC0.out);(case side3=>repeat (first|exact HR1.out|(with_reducible refine ca ?_ _)|(with_reducible refine cb ?_ _)|(with_reducible refine cc ?_)));(case side4=>exact HC1.out);rintro e w16 ⟨rfl,hb⟩;refine ⟨_,rfl,?_⟩;have n0_:=A_ (below_step (by repeat (first|(with_reducible first|exact HB.out|apply ba|apply bb|apply bc)|exact HB.out)) hb);clear HB;have HB:=n0_;clear n0_;(try clear hb);(try clear hb2);(try clear hk);(try clear hi)))
  go_ret2
  exact ⟨by first|rfl|(simp [errW_none,errW_some] <;> rfl)|(simp [*,errW_none,errW_some] <;> rfl),by repeat (first|(with_reducible first|exact HB.out|apply ba|apply bb|apply bc)|exact HB.out)⟩

/-! ### shapesearchlaw16_awake: function 15 -/
def shapesearchlaw16_awake.f (k : Nat)  : Option (Bool):=(some (([(([0,0,5] : List Int)),(([0,5,5] : List Int))] : List (List Int)) : List (List Int))).bind fun y317=>((some (([(([0,5,5] : List Int)),(([0,0,5] : List Int))] : List (List Int)) : List (List Int))).bind fun y326=>((channels_Apart.f k y317 y326 1).bind fun bt329=>((channels_Together.f k y317 y326 1).bind fun bt331=>(if bt329.2 = 0 then (if bt329.1 = 0 then (if bt331.2 = 0 then (some (bt331.1 == 50)) else (some false)) else (some false)) else (some false)))))
theorem shapesearchlaw16_awake.mono : ∀ k,LeO (shapesearchlaw16_awake.f k ) (shapesearchlaw16_awake.f (k + 1) ):=by
 intro  k
 unfold shapesearchlaw16_awake.f
 repeat' first
   | (with_reducible exact channels_Apart.mono _ _ _ _)
   | (with_reducible exact channels_Together.mono _ _ _ _)
   | (with_reducible exact LeO.refl _)
   | (with_reducible exact LeO.none _)
   | (with_reducible refine LeO.ite ?_ ?_)
   | (with_reducible refine LeO.bind ?_ (fun _=>?_))
   | exact channels_Apart.mono _ _ _ _
   | exact channels_Together.mono _ _ _ _
   | exact LeO.none _
   | refine LeO.ite ?_ ?_
   | refine LeO.bind ?_ (fun _=>?_)
set_option maxHeartbeats 8000000 in
set_option maxRecDepth 100000 in
theorem shapesearchlaw16_awake.calls (k : Nat)  (r : Bool) (w : World) (h : shapesearchlaw16_awake.f k  = some r) :
  Calls Try.prog 15 #[] w fun e w'=>e = .returned (.bool r)∧Below w.heap.size w w':=by
 have HB:=A_ (Below.refl w.heap.size w)
 have H : ((some (([(([0,0,5] : List Int)),(([0,5,5] : List Int))] : List (List Int)) : List (List Int))).bind fun y317=>((some (([(([0,5,5] : List Int)),(([0,0,5] : List Int))] : List (List Int)) : List (List Int))).bind fun y326=>((channels_Apart.f k y317 y326 1).bind fun bt329=>((channels_Together.f k y317 y326 1).bind fun bt331=>(if bt329.2 = 0 then (if bt329.1 = 0 then (if bt331.2 = 0 then (some (bt331.1 == 50)) else (some false)) else (some false)) else (some false)))))) = some r:=h
 clear h
 obtain ⟨y311,hy311⟩ : ∃ y_ : List Int,y_ = (([0,0,5] : List Int)):=⟨_,rfl⟩
 replace H : ((some (([y311,(([0,5,5] : List Int))] : List (List Int)) : List (List Int))).bind fun y317=>((some (([(([0,5,5] : List Int)),(([0,0,5] : List Int))] : List (List Int)) : List (List Int))).bind fun y326=>((channels_Apart.f k y317 y326 1).bind fun bt329=>((channels_Together.f k y317 y326 1).bind fun bt331=>(if bt329.2 = 0 then (if bt329.1 = 0 then (if bt331.2 = 0 then (some (bt331.1 == 50)) else (some false)) else (some false)) else (some false)))))) = some r:=by first|(rw [hy311];with_reducible exact H)|(have H2_:=(Option.bind_some _ _).symm.trans H;rw [hy311];with_reducible exact H2_)|(have H2_:=(Option.bind_some _ _).symm.trans H;with_reducible exact H2_)|with_reducible exact H|(rw [hy311];exact H)|exact H
 have Ny311:=A_ hy311
 clear hy311
 obtain ⟨y314,hy314⟩ : ∃ y_ : List Int,y_ = (([0,5,5] : List Int)):=⟨_,rfl⟩
 replace H : ((some (([y311,y314] : List (List Int)) : List (List Int))).bind fun y317=>((some (([(([0,5,5] : List Int)),(([0,0,5] : List Int))] : List (List Int)) : List (List Int))).bind fun y326=>((channels_Apart.f k y317 y326 1).bind fun bt329=>((channels_Together.f k y317 y326 1).bind fun bt331=>(if bt329.2 = 0 then (if bt329.1 = 0 then (if bt331.2 = 0 then (some (bt331.1 == 50)) else (some false)) else (some false)) else (some false)))))) = some r:=by first|(rw [hy314];with_reducible exact H)|(have H2_:=(Option.bind_some _ _).symm.trans H;rw [hy314];with_reducible exact H2_)|(have H2_:=(Option.bind_some _ _).symm.trans H;with_reducible exact H2_)|with_reducible exact H|(rw [hy314];exact H)|exact H
 have Ny314:=A_ hy314
 clear hy314
 obtain ⟨y317,hy317⟩ : ∃ y_ : List (List Int),y_ = (([y311,y314] : List (List Int))):=⟨_,rfl⟩
 replace H : ((some (([(([0,5,5] : List Int)),(([0,0,5] : List Int))] : List (List Int)) : List (List Int))).bind fun y326=>((channels_Apart.f k y317 y326 1).bind fun bt329=>((channels_Together.f k y317 y326 1).bind fun bt331=>(if bt329.2 = 0 then (if bt329.1 = 0 then (if bt331.2 = 0 then (some (bt331.1 == 50)) else (some false)) else (some false)) else (some false))))) = some r:=by first|(rw [hy317];with_reducible exact H)|(have H2_:=(Option.bind_some _ _).symm.trans H;rw [hy317];with_reducible exact H2_)|(have H2_:=(Option.bind_some _ _).symm.trans H;with_reducible exact H2_)|with_reducible exact H|(rw [hy317];exact H)|exact H
 have Ny317:=A_ hy317
 clear hy317
 obtain ⟨y320,hy320⟩ : ∃ y_ : List Int,y_ = (([0,5,5] : List Int)):=⟨_,rfl⟩
 replace H : ((some (([y320,(([0,0,5] : List Int))] : List (List Int)) : List (List Int))).bind fun y326=>((channels_Apart.f k y317 y326 1).bind fun bt329=>((channels_Together.f k y317 y326 1).bind fun bt331=>(if bt329.2 = 0 then (if bt329.1 = 0 then (if bt331.2 = 0 then (some (bt331.1 == 50)) else (some false)) else (some false)) else (some false))))) = some r:=by first|(rw [hy320];with_reducible exact H)|(have H2_:=(Option.bind_some _ _).symm.trans H;rw [hy320];with_reducible exact H2_)|(have H2_:=(Option.bind_some _ _).symm.trans H;with_reducible exact H2_)|with_reducible exact H|(rw [hy320];exact H)|exact H
 have Ny320:=A_ hy320
 clear hy320
 obtain ⟨y323,hy323⟩ : ∃ y_ : List Int,y_ = (([0,0,5] : List Int)):=⟨_,rfl⟩
 replace H : ((some (([y320,y323] : List (List Int)) : List (List Int))).bind fun y326=>((channels_Apart.f k y317 y326 1).bind fun bt329=>((channels_Together.f k y317 y326 1).bind fun bt331=>(if bt329.2 = 0 then (if bt329.1 = 0 then (if bt331.2 = 0 then (some (bt331.1 == 50)) else (some false)) else (some false)) else (some false))))) = some r:=by first|(rw [hy323];with_reducible exact H)|(have H2_:=(Option.bind_some _ _).symm.trans H;rw [hy323];with_reducible exact H2_)|(have H2_:=(Option.bind_some _ _).symm.trans H;with_reducible exact H2_)|with_reducible exact H|(rw [hy323];exact H)|exact H
 have Ny323:=A_ hy323
 clear hy323
 obtain ⟨y326,hy326⟩ : ∃ y_ : List (List Int),y_ = (([y320,y323] : List (List Int))):=⟨_,rfl⟩
 replace H : ((channels_Apart.f k y317 y326 1).bind fun bt329=>((channels_Together.f k y317 y326 1).bind fun bt331=>(if bt329.2 = 0 then (if bt329.1 = 0 then (if bt331.2 = 0 then (some (bt331.1 == 50)) else (some false)) else (some false)) else (some false)))) = some r:=by first|(rw [hy326];with_reducible exact H)|(have H2_:=(Option.bind_some _ _).symm.trans H;rw [hy326];with_reducible exact H2_)|(have H2_:=(Option.bind_some _ _).symm.trans H;with_reducible exact H2_)|with_reducible exact H|(rw [hy326];exact H)|exact H
 have Ny326:=A_ hy326
 clear hy326
 replace H:=Option.bind_eq_some_iff.mp H
 obtain ⟨⟨t329,t330⟩,A10,H⟩:=H
 replace H : ((channels_Together.f k y317 y326 1).bind fun bt331=>(if t330 = 0 then (if t329 = 0 then (if bt331.2 = 0 then (some (bt331.1 == 50)) else (some false)) else (some false)) else (some false))) = some r:=H
 have A1:=A_ A10
 clear A10
 replace H:=Option.bind_eq_some_iff.mp H
 obtain ⟨⟨t331,t332⟩,A20,H⟩:=H
 replace H : (if t330 = 0 then (if t329 = 0 then (if t332 = 0 then (some (t331 == 50)) else (some false)) else (some false)) else (some false)) = some r:=H
 have A2:=A_ A20
 clear A20
 by_cases c3 : t330 = 0
 ·
  rw [if_pos c3] at H
  have c3b0 : (t330 == 0) = true:=beq_iff_eq.mpr c3
  have c3b1 : (t330 != 0) = false:=bne_eq_false_iff_eq.mpr c3
  clear c3
  by_cases c4 : t329 = 0
  ·
   rw [if_pos c4] at H
   have c4b0 : (t329 == 0) = true:=beq_iff_eq.mpr c4
   have c4b1 : (t329 != 0) = false:=bne_eq_false_iff_eq.mpr c4
   clear c4
   by_cases c5 : t332 = 0
   ·
    rw [if_pos c5] at H
    have c5b0 : (t332 == 0) = true:=beq_iff_eq.mpr c5
    have c5b1 : (t332 != 0) = false:=bne_eq_false_iff_eq.mpr c5
    clear c5
    obtain rfl:=Option.some.inj H
    go_enter Try.func15,Try.ntmps15
    go_wp2_with (first|((with_reducible refine gate_dst (N:=7) rfl ?_);refine Kd.R_lit (Kd.int .i64) _ 3 ?hg (N:=7) ?hd (xs:=([0,0,5] : List Int)) (inner:=[.int .i64 0,.int .i64 0,.int .i64 5]) (ok:=fun _=>True) (okp:=fun _=>True) ?hr ?hp (fun _ hk=>hk) trivial (Below.refl _ _) (Nat.le_refl _) (by simp) ?_;(case hd=>rfl);(case hg=>rfl);(case hr=>first|(go_simp;done)|(go_simp;rfl));(case hp=>exact (Reps.one (show Kd.M (Kd.int .i64) _ _ _ 0 [.int .i64 0] from rfl) (Reps.one (show Kd.M (Kd.int .i64) _ _ _ 0 [.int .i64 0] from rfl) (Reps.one (show Kd.M (Kd.int .i64) _ _ _ 5 [.int .i64 5] from rfl) (Reps.none _ _)))));intro v312 w6 ho7 hb hg_ hnew_;clear hg_ hnew_;(first|rw [← Ny311.out] at ho7|(simp only [Int.reduceToNat] at ho7;rw [← Ny311.out] at ho7));have n0_:=A_ (Kd.R_lower ho7 (below_size (by repeat (first|(with_reducible first|exact HB.out|apply ba|apply bb|apply bc)|exact HB.out))));have n1_:=A_ (below_step (by repeat (first|(with_reducible first|exact HB.out|apply ba|apply bb|apply bc)|exact HB.out)) hb);clear HB;have HO313:=n0_;have HB:=n1_;clear n0_ n1_;clear hb ho7)|((with_reducible refine gate_dst (N:=8) rfl ?_);refine Kd.R_lit (Kd.int .i64) _ 3 ?hg (N:=8) ?hd (xs:=([0,5,5] : List Int)) (inner:=[.int .i64 0,.int .i64 5,.int .i64 5]) (ok:=fun _=>True) (okp:=fun _=>True) ?hr ?hp (fun _ hk=>hk) trivial (Below.refl _ _) (Nat.le_refl _) (by simp) ?_;(case hd=>rfl);(case hg=>rfl);(case hr=>first|(go_simp;done)|(go_simp;rfl));(case hp=>exact (Reps.one (show Kd.M (Kd.int .i64) _ _ _ 0 [.int .i64 0] from rfl) (Reps.one (show Kd.M (Kd.int .i64) _ _ _ 5 [.int .i64 5] from rfl) (Reps.one (show Kd.M (Kd.int .i64) _ _ _ 5 [.int .i64 5] from rfl) (Reps.none _ _)))));intro v315 w8 ho9 hb hg_ hnew_;clear hg_ hnew_;(first|rw [← Ny314.out] at ho9|(simp only [Int.reduceToNat] at ho9;rw [← Ny314.out] at ho9));have n0_:=A_ (re (by (with_reducible repeat (first|apply ra|apply rb|apply rc));exact HO313.out) (rs ho9) hb);have n1_:=A_ (Kd.R_lower (rn ho9 (rl (by (with_reducible repeat (first|apply ra|apply rb|apply rc));exact HO313.out))) (below_size (by repeat (first|(with_reducible first|exact HB.out|apply ba|apply bb|apply bc)|exact HB.out))));have n2_:=A_ (below_step (by repeat (first|(with_reducible first|exact HB.out|apply ba|apply bb|apply bc)|exact HB.out)) hb);clear HO313;clear HB;have HO313:=n0_;have HO316:=n1_;have HB:=n2_;clear n0_ n1_ n2_;clear hb ho9;obtain ⟨Ao10,co10,eo10⟩:=Kd.R_slice HO313.out;subst eo10;obtain ⟨Ao11,co11,eo11⟩:=Kd.R_slice HO316.out;subst eo11)|((with_reducible refine gate_dst (N:=9) rfl ?_);refine Kd.N_lit (Kd.slice 3 (Kd.int .i64)) _ 22 ?hg (N':=9) ?hd (xs:=([y311,y314] : List (List Int))) (inner:=[.slice Ao10 y311.length co10,.slice Ao11 y314.length co11]) (ok:=(fun _=>True)) (okp:=(fun _=>True)) ?hr ?hp (fun _ hk=>hk) ((show ∀ k_,w8.heap.size ≤ k_ → (fun _=>True) k_ from fun k_ hk=>trivial) _ (Nat.le_refl _)) (Below.refl _ _) (Nat.le_refl _) (by simp) ?_;(case hd=>rfl);(case hg=>rfl);(case hr=>first|(go_simp;done)|(go_simp;rfl));(case hp=>exact (Reps.one (show Kd.FK (Kd.slice 3 (Kd.int .i64)) _ _ y311 [.slice Ao10 y311.length co10] from (Kd.FK_slice_mk (rd_ (rm (ok':=(fun _=>True)) (HO313.out) (fun k_ hk=>trivial))).2.1 (Kd.R_F (rm (ok':=(fun _=>True)) (HO313.out) (fun k_ hk=>trivial))))) (Reps.one (show Kd.FK (Kd.slice 3 (Kd.int .i64)) _ _ y314 [.slice Ao11 y314.length co11] from (Kd.FK_slice_mk (rd_ (rm (ok':=(fun _=>True)) (HO316.out) (fun k_ hk=>trivial))).2.1 (Kd.R_F (rm (ok':=(fun _=>True)) (HO316.out) (fun k_ hk=>trivial))))) (Reps.none _ _))));intro v318 w12 ho13 hb hg_ hnew_;clear hg_ hnew_;(first|rw [← Ny317.out] at ho13|(simp only [Int.reduceToNat] at ho13;rw [← Ny317.out] at ho13));have n0_:=A_ (Kd.N_lower ho13 (below_size (by repeat (first|(with_reducible first|exact HB.out|apply ba|apply bb|apply bc)|exact HB.out))));have n1_:=A_ (below_step (by repeat (first|(with_reducible first|exact HB.out|apply ba|apply bb|apply bc)|exact HB.out)) hb);clear HB;clear HO313;clear HO316;have HO319:=n0_;have HB:=n1_;clear n0_ n1_;clear hb ho13)|((with_reducible refine gate_dst (N:=10) rfl ?_);refine Kd.R_lit (Kd.int .i64) _ 3 ?hg (N:=10) ?hd (xs:=([0,5,5] : List Int)) (inner:=[.int .i64 0,.int .i64 5,.int .i64 5]) (ok:=fun _=>True) (okp:=fun _=>True) ?hr ?hp (fun _ hk=>hk) trivial (Below.refl _ _) (Nat.le_refl _) (by simp) ?_;(case hd=>rfl);(case hg=>rfl);(case hr=>first|(go_simp;done)|(go_simp;rfl));(case hp=>exact (Reps.one (show Kd.M (Kd.int .i64) _ _ _ 0 [.int .i64 0] from rfl) (Reps.one (show Kd.M (Kd.int .i64) _ _ _ 5 [.int .i64 5] from rfl) (Reps.one (show Kd.M (Kd.int .i64) _ _ _ 5 [.int .i64 5] from rfl) (Reps.none _ _)))));intro v321 w14 ho15 hb hg_ hnew_;clear hg_ hnew_;(first|rw [← Ny320.out] at ho15|(simp only [Int.reduceToNat] at ho15;rw [← Ny320.out] at ho15));have n0_:=A_ (Kd.N_elder' (by (with_reducible repeat (first|apply na|apply nd_|apply ne_));exact HO319.out) (rs ho15) hb);have n1_:=A_ (Kd.R_lower ho15 (below_size (by repeat (first|(with_reducible first|exact HB.out|apply ba|apply bb|apply bc)|exact HB.out))));have n2_:=A_ (below_step (by repeat (first|(with_reducible first|exact HB.out|apply ba|apply bb|apply bc)|exact HB.out)) hb);clear HO319;clear HB;have HO319:=n0_;have HO322:=n1_;have HB:=n2_;clear n0_ n1_ n2_;clear hb ho15)|((with_reducible refine gate_dst (N:=11) rfl ?_);refine Kd.R_lit (Kd.int .i64) _ 3 ?hg (N:=11) ?hd (xs:=([0,0,5] : List Int)) (inner:=[.int .i64 0,.int .i64 0,.int .i64 5]) (ok:=fun _=>True) (okp:=fun _=>True) ?hr ?hp (fun _ hk=>hk) trivial (Below.refl _ _) (Nat.le_refl _) (by simp) ?_;(case hd=>rfl);(case hg=>rfl);(case hr=>first|(go_simp;done)|(go_simp;rfl));(case hp=>exact (Reps.one (show Kd.M (Kd.int .i64) _ _ _ 0 [.int .i64 0] from rfl) (Reps.one (show Kd.M (Kd.int .i64) _ _ _ 0 [.int .i64 0] from rfl) (Reps.one (show Kd.M (Kd.int .i64) _ _ _ 5 [.int .i64 5] from rfl) (Reps.none _ _)))));intro v324 w16 ho17 hb hg_ hnew_;clear hg_ hnew_;(first|rw [← Ny323.out] at ho17|(simp only [Int.reduceToNat] at ho17;rw [← Ny323.out] at ho17));have n0_:=A_ (Kd.N_elder' (by (with_reducible repeat (first|apply na|apply nd_|apply ne_));exact HO319.out) (rs ho17) hb);have n1_:=A_ (re (by (with_reducible repeat (first|apply ra|apply rb|apply rc));exact HO322.out) (rs ho17) hb);have n2_:=A_ (Kd.R_lower (rn ho17 (rl (by (with_reducible repeat (first|apply ra|apply rb|apply rc));exact HO322.out))) (below_size (by repeat (first|(with_reducible first|exact HB.out|apply ba|apply bb|apply bc)|exact HB.out))));have n3_:=A_ (below_step (by repeat (first|(with_reducible first|exact HB.out|apply ba|apply bb|apply bc)|exact HB.out)) hb);clear HO319;clear HO322;clear HB;have HO319:=n0_;have HO322:=n1_;have HO325:=n2_;have HB:=n3_;clear n0_ n1_ n2_ n3_;clear hb ho17;obtain ⟨Ao18,co18,eo18⟩:=Kd.R_slice HO322.out;subst eo18;obtain ⟨Ao19,co19,eo19⟩:=Kd.R_slice HO325.out;subst eo19)|((with_reducible refine gate_dst (N:=12) rfl ?_);refine Kd.N_lit (Kd.slice 3 (Kd.int .i64)) _ 22 ?hg (N':=12) ?hd (xs:=([y320,y323] : List (List Int))) (inner:=[.slice Ao18 y320.length co18,.slice Ao19 y323.length co19]) (ok:=(fun k_=>nb k_ v318)) (okp:=(fun k_=>nb k_ v318)) ?hr ?hp (fun _ hk=>hk) ((show ∀ k_,w16.heap.size ≤ k_ → (fun k_=>nb k_ v318) k_ from fun k_ hk=>rh (Kd.N_lt (by (with_reducible repeat (first|apply na|apply nd_|apply ne_));exact HO319.out)) k_ hk) _ (Nat.le_refl _)) (Below.refl _ _) (Nat.le_refl _) (by simp) ?_;(case hd=>rfl);(case hg=>rfl);(case hr=>first|(go_simp;done)|(go_simp;rfl));(case hp=>exact (Reps.one (show Kd.FK (Kd.slice 3 (Kd.int .i64)) _ _ y320 [.slice Ao18 y320.length co18] from (Kd.FK_slice_mk (rd_ (rm (ok':=(fun k_=>nb k_ v318)) (Kd.R_apart' (HO322.out) (Kd.N_typed HO319.out) (by decide)) (fun k_ hk=>hk.2))).2.1 (Kd.R_F (rm (ok':=(fun k_=>nb k_ v318)) (Kd.R_apart' (HO322.out) (Kd.N_typed HO319.out) (by decide)) (fun k_ hk=>hk.2))))) (Reps.one (show Kd.FK (Kd.slice 3 (Kd.int .i64)) _ _ y323 [.slice Ao19 y323.length co19] from (Kd.FK_slice_mk (rd_ (rm (ok':=(fun k_=>nb k_ v318)) (Kd.R_apart' (HO325.out) (Kd.N_typed HO319.out) (by decide)) (fun k_ hk=>hk.2))).2.1 (Kd.R_F (rm (ok':=(fun k_=>nb k_ v318)) (Kd.R_apart' (HO325.out) (Kd.N_typed HO319.out) (by decide)) (fun k_ hk=>hk.2))))) (Reps.none _ _))));intro v327 w20 ho21 hb hg_ hnew_;clear hg_ hnew_;(first|rw [← Ny326.out] at ho21|(simp only [Int.reduceToNat] at ho21;rw [← Ny326.out] at ho21));have n0_:=A_ (Kd.N_elder' (by (with_reducible repeat (first|apply na|apply nd_|apply ne_));exact HO319.out) (Kd.N_base ho21) hb);have n1_:=A_ (Kd.N_lower ho21 (below_size (by repeat (first|(with_reducible first|exact HB.out|apply ba|apply bb|apply bc)|exact HB.out))));have n2_:=A_ (below_step (by repeat (first|(with_reducible first|exact HB.out|apply ba|apply bb|apply bc)|exact HB.out)) hb);clear HO319;clear HB;clear HO322;clear HO325;have HO319:=n0_;have HO328:=n1_;have HB:=n2_;clear n0_ n1_ n2_;clear hb ho21;obtain ⟨Ao22,co22,eo22⟩:=Kd.N_slice HO319.out;subst eo22;obtain ⟨Ao23,co23,eo23⟩:=Kd.N_slice HO328.out;subst eo23)|((with_reducible refine gate_callee (f:=11) rfl ?_);refine goesL_ (some 16) rfl rfl Try.func11 (by kernel_rfl) rfl #[.slice Ao22 y317.length co22,.slice Ao23 y326.length co23,.int .i64 1] rfl (by (try simp only [List.map_toArray,List.map_cons,List.map_nil]);first|done|rfl|(simp only [List.length_drop,List.length_take];rfl)) ?_;(with_reducible refine (channels_Apart.calls k _ _ y317 _ _ y326 1 t329 t330 _ ?side1 ?side2 ?side3 ?side4 A1.out).mono ?_);(case side1=>repeat (first|exact (Kd.N_reads' HO319.out).2.2|(with_reducible refine ca ?_ _)|(with_reducible refine cb ?_ _)|(with_reducible refine cc ?_)));(case side2=>exact (Kd.N_reads' HO319.out).2.1);(case side3=>repeat (first|exact (Kd.N_reads' HO328.out).2.2|(with_reducible refine ca ?_ _)|(with_reducible refine cb ?_ _)|(with_reducible refine cc ?_)));(case side4=>exact (Kd.N_reads' HO328.out).2.1);rintro e w24 ⟨rfl,hb⟩;refine ⟨_,rfl,?_⟩;have n0_:=A_ (Kd.N_below (by (with_reducible repeat (first|apply na|apply nd_|apply ne_));exact HO319.out) hb);have n1_:=A_ (Kd.N_below (by (with_reducible repeat (first|apply na|apply nd_|apply ne_));exact HO328.out) hb);have n2_:=A_ (below_step (by repeat (first|(with_reducible first|exact HB.out|apply ba|apply bb|apply bc)|exact HB.out)) hb);clear HO319;clear HO328;clear HB;have HO319:=n0_;have HO328:=n1_;have HB:=n2_;clear n0_ n1_ n2_;(try clear hb);(try clear hb2);(try clear hk);(try clear hi))|((with_reducible refine gate_callee (f:=12) rfl ?_);refine goesL_ (some 22) rfl rfl Try.func12 (by kernel_rfl) rfl #[.slice Ao22 y317.length co22,.slice Ao23 y326.length co23,.int .i64 1] rfl (by (try simp only [List.map_toArray,List.map_cons,List.map_nil]);first|done|rfl|(simp only [List.length_drop,List.length_take];rfl)) ?_;(with_reducible refine (channels_Together.calls k _ _ y317 _ _ y326 1 t331 t332 _ ?side1 ?side2 ?side3 ?side4 A2.out).mono ?_);(case side1=>repeat (first|exact (Kd.N_reads' HO319.out).2.2|(with_reducible refine ca ?_ _)|(with_reducible refine cb ?_ _)|(with_reducible refine cc ?_)));(case side2=>exact (Kd.N_reads' HO319.out).2.1);(case side3=>repeat (first|exact (Kd.N_reads' HO328.out).2.2|(with_reducible refine ca ?_ _)|(with_reducible refine cb ?_ _)|(with_reducible refine cc ?_)));(case side4=>exact (Kd.N_reads' HO328.out).2.1);rintro e w25 ⟨rfl,hb⟩;refine ⟨_,rfl,?_⟩;have n0_:=A_ (Kd.N_below (by (with_reducible repeat (first|apply na|apply nd_|apply ne_));exact HO319.out) hb);have n1_:=A_ (Kd.N_below (by (with_reducible repeat (first|apply na|apply nd_|apply ne_));exact HO328.out) hb);have n2_:=A_ (below_step (by repeat (first|(with_reducible first|exact HB.out|apply ba|apply bb|apply bc)|exact HB.out)) hb);clear HO319;clear HO328;clear HB;have HO319:=n0_;have HO328:=n1_;have HB:=n2_;clear n0_ n1_ n2_;(try clear hb);(try clear hb2);(try clear hk);(try clear hi)))
    go_ret
    exact ⟨by first|rfl|(simp [errW_none,errW_some] <;> rfl)|(simp [*,errW_none,errW_some] <;> rfl),by repeat (first|(with_reducible first|exact HB.out|apply ba|apply bb|apply bc)|exact HB.out)⟩
   ·
    rw [if_neg c5] at H
    have c5b0 : (t332 == 0) = false:=beq_eq_false_iff_ne.mpr c5
    have c5b1 : (t332 != 0) = true:=bne_iff_ne.mpr c5
    obtain rfl:=Option.some.inj H
    go_enter Try.func15,Try.ntmps15
    go_wp2_with (first|((with_reducible refine gate_dst (N:=7) rfl ?_);refine Kd.R_lit (Kd.int .i64) _ 3 ?hg (N:=7) ?hd (xs:=([0,0,5] : List Int)) (inner:=[.int .i64 0,.int .i64 0,.int .i64 5]) (ok:=fun _=>True) (okp:=fun _=>True) ?hr ?hp (fun _ hk=>hk) trivial (Below.refl _ _) (Nat.le_refl _) (by simp) ?_;(case hd=>rfl);(case hg=>rfl);(case hr=>first|(go_simp;done)|(go_simp;rfl));(case hp=>exact (Reps.one (show Kd.M (Kd.int .i64) _ _ _ 0 [.int .i64 0] from rfl) (Reps.one (show Kd.M (Kd.int .i64) _ _ _ 0 [.int .i64 0] from rfl) (Reps.one (show Kd.M (Kd.int .i64) _ _ _ 5 [.int .i64 5] from rfl) (Reps.none _ _)))));intro v312 w26 ho27 hb hg_ hnew_;clear hg_ hnew_;(first|rw [← Ny311.out] at ho27|(simp only [Int.reduceToNat] at ho27;rw [← Ny311.out] at ho27));have n0_:=A_ (Kd.R_lower ho27 (below_size (by repeat (first|(with_reducible first|exact HB.out|apply ba|apply bb|apply bc)|exact HB.out))));have n1_:=A_ (below_step (by repeat (first|(with_reducible first|exact HB.out|apply ba|apply bb|apply bc)|exact HB.out)) hb);clear HB;have HO313:=n0_;have HB:=n1_;clear n0_ n1_;clear hb ho27)|((with_reducible refine gate_dst (N:=8) rfl ?_);refine Kd.R_lit (Kd.int .i64) _ 3 ?hg (N:=8) ?hd (xs:=([0,5,5] : List Int)) (inner:=[.int .i64 0,.int .i64 5,.int .i64 5]) (ok:=fun _=>True) (okp:=fun _=>True) ?hr ?hp (fun _ hk=>hk) trivial (Below.refl _ _) (Nat.le_refl _) (by simp) ?_;(case hd=>rfl);(case hg=>rfl);(case hr=>first|(go_simp;done)|(go_simp;rfl));(case hp=>exact (Reps.one (show Kd.M (Kd.int .i64) _ _ _ 0 [.int .i64 0] from rfl) (Reps.one (show Kd.M (Kd.int .i64) _ _ _ 5 [.int .i64 5] from rfl) (Reps.one (show Kd.M (Kd.int .i64) _ _ _ 5 [.int .i64 5] from rfl) (Reps.none _ _)))));intro v315 w28 ho29 hb hg_ hnew_;clear hg_ hnew_;(first|rw [← Ny314.out] at ho29|(simp only [Int.reduceToNat] at ho29;rw [← Ny314.out] at ho29));have n0_:=A_ (re (by (with_reducible repeat (first|apply ra|apply rb|apply rc));exact HO313.out) (rs ho29) hb);have n1_:=A_ (Kd.R_lower (rn ho29 (rl (by (with_reducible repeat (first|apply ra|apply rb|apply rc));exact HO313.out))) (below_size (by repeat (first|(with_reducible first|exact HB.out|apply ba|apply bb|apply bc)|exact HB.out))));have n2_:=A_ (below_step (by repeat (first|(with_reducible first|exact HB.out|apply ba|apply bb|apply bc)|exact HB.out)) hb);clear HO313;clear HB;have HO313:=n0_;have HO316:=n1_;have HB:=n2_;clear n0_ n1_ n2_;clear hb ho29;obtain ⟨Ao30,co30,eo30⟩:=Kd.R_slice HO313.out;subst eo30;obtain ⟨Ao31,co31,eo31⟩:=Kd.R_slice HO316.out;subst eo31)|((with_reducible refine gate_dst (N:=9) rfl ?_);refine Kd.N_lit (Kd.slice 3 (Kd.int .i64)) _ 22 ?hg (N':=9) ?hd (xs:=([y311,y314] : List (List Int))) (inner:=[.slice Ao30 y311.length co30,.slice Ao31 y314.length co31]) (ok:=(fun _=>True)) (okp:=(fun _=>True)) ?hr ?hp (fun _ hk=>hk) ((show ∀ k_,w28.heap.size ≤ k_ → (fun _=>True) k_ from fun k_ hk=>trivial) _ (Nat.le_refl _)) (Below.refl _ _) (Nat.le_refl _) (by simp) ?_;(case hd=>rfl);(case hg=>rfl);(case hr=>first|(go_simp;done)|(go_simp;rfl));(case hp=>exact (Reps.one (show Kd.FK (Kd.slice 3 (Kd.int .i64)) _ _ y311 [.slice Ao30 y311.length co30] from (Kd.FK_slice_mk (rd_ (rm (ok':=(fun _=>True)) (HO313.out) (fun k_ hk=>trivial))).2.1 (Kd.R_F (rm (ok':=(fun _=>True)) (HO313.out) (fun k_ hk=>trivial))))) (Reps.one (show Kd.FK (Kd.slice 3 (Kd.int .i64)) _ _ y314 [.slice Ao31 y314.length co31] from (Kd.FK_slice_mk (rd_ (rm (ok':=(fun _=>True)) (HO316.out) (fun k_ hk=>trivial))).2.1 (Kd.R_F (rm (ok':=(fun _=>True)) (HO316.out) (fun k_ hk=>trivial))))) (Reps.none _ _))));intro v318 w32 ho33 hb hg_ hnew_;clear hg_ hnew_;(first|rw [← Ny317.out] at ho33|(simp only [Int.reduceToNat] at ho33;rw [← Ny317.out] at ho33));have n0_:=A_ (Kd.N_lower ho33 (below_size (by repeat (first|(with_reducible first|exact HB.out|apply ba|apply bb|apply bc)|exact HB.out))));have n1_:=A_ (below_step (by repeat (first|(with_reducible first|exact HB.out|apply ba|apply bb|apply bc)|exact HB.out)) hb);clear HB;clear HO313;clear HO316;have HO319:=n0_;have HB:=n1_;clear n0_ n1_;clear hb ho33)|((with_reducible refine gate_dst (N:=10) rfl ?_);refine Kd.R_lit (Kd.int .i64) _ 3 ?hg (N:=10) ?hd (xs:=([0,5,5] : List Int)) (inner:=[.int .i64 0,.int .i64 5,.int .i64 5]) (ok:=fun _=>True) (okp:=fun _=>True) ?hr ?hp (fun _ hk=>hk) trivial (Below.refl _ _) (Nat.le_refl _) (by simp) ?_;(case hd=>rfl);(case hg=>rfl);(case hr=>first|(go_simp;done)|(go_simp;rfl));(case hp=>exact (Reps.one (show Kd.M (Kd.int .i64) _ _ _ 0 [.int .i64 0] from rfl) (Reps.one (show Kd.M (Kd.int .i64) _ _ _ 5 [.int .i64 5] from rfl) (Reps.one (show Kd.M (Kd.int .i64) _ _ _ 5 [.int .i64 5] from rfl) (Reps.none _ _)))));intro v321 w34 ho35 hb hg_ hnew_;clear hg_ hnew_;(first|rw [← Ny320.out] at ho35|(simp only [Int.reduceToNat] at ho35;rw [← Ny320.out] at ho35));have n0_:=A_ (Kd.N_elder' (by (with_reducible repeat (first|apply na|apply nd_|apply ne_));exact HO319.out) (rs ho35) hb);have n1_:=A_ (Kd.R_lower ho35 (below_size (by repeat (first|(with_reducible first|exact HB.out|apply ba|apply bb|apply bc)|exact HB.out))));have n2_:=A_ (below_step (by repeat (first|(with_reducible first|exact HB.out|apply ba|apply bb|apply bc)|exact HB.out)) hb);clear HO319;clear HB;have HO319:=n0_;have HO322:=n1_;have HB:=n2_;clear n0_ n1_ n2_;clear hb ho35)|((with_reducible refine gate_dst (N:=11) rfl ?_);refine Kd.R_lit (Kd.int .i64) _ 3 ?hg (N:=11) ?hd (xs:=([0,0,5] : List Int)) (inner:=[.int .i64 0,.int .i64 0,.int .i64 5]) (ok:=fun _=>True) (okp:=fun _=>True) ?hr ?hp (fun _ hk=>hk) trivial (Below.refl _ _) (Nat.le_refl _) (by simp) ?_;(case hd=>rfl);(case hg=>rfl);(case hr=>first|(go_simp;done)|(go_simp;rfl));(case hp=>exact (Reps.one (show Kd.M (Kd.int .i64) _ _ _ 0 [.int .i64 0] from rfl) (Reps.one (show Kd.M (Kd.int .i64) _ _ _ 0 [.int .i64 0] from rfl) (Reps.one (show Kd.M (Kd.int .i64) _ _ _ 5 [.int .i64 5] from rfl) (Reps.none _ _)))));intro v324 w36 ho37 hb hg_ hnew_;clear hg_ hnew_;(first|rw [← Ny323.out] at ho37|(simp only [Int.reduceToNat] at ho37;rw [← Ny323.out] at ho37));have n0_:=A_ (Kd.N_elder' (by (with_reducible repeat (first|apply na|apply nd_|apply ne_));exact HO319.out) (rs ho37) hb);have n1_:=A_ (re (by (with_reducible repeat (first|apply ra|apply rb|apply rc));exact HO322.out) (rs ho37) hb);have n2_:=A_ (Kd.R_lower (rn ho37 (rl (by (with_reducible repeat (first|apply ra|apply rb|apply rc));exact HO322.out))) (below_size (by repeat (first|(with_reducible first|exact HB.out|apply ba|apply bb|apply bc)|exact HB.out))));have n3_:=A_ (below_step (by repeat (first|(with_reducible first|exact HB.out|apply ba|apply bb|apply bc)|exact HB.out)) hb);clear HO319;clear HO322;clear HB;have HO319:=n0_;have HO322:=n1_;have HO325:=n2_;have HB:=n3_;clear n0_ n1_ n2_ n3_;clear hb ho37;obtain ⟨Ao38,co38,eo38⟩:=Kd.R_slice HO322.out;subst eo38;obtain ⟨Ao39,co39,eo39⟩:=Kd.R_slice HO325.out;subst eo39)|((with_reducible refine gate_dst (N:=12) rfl ?_);refine Kd.N_lit (Kd.slice 3 (Kd.int .i64)) _ 22 ?hg (N':=12) ?hd (xs:=([y320,y323] : List (List Int))) (inner:=[.slice Ao38 y320.length co38,.slice Ao39 y323.length co39]) (ok:=(fun k_=>nb k_ v318)) (okp:=(fun k_=>nb k_ v318)) ?hr ?hp (fun _ hk=>hk) ((show ∀ k_,w36.heap.size ≤ k_ → (fun k_=>nb k_ v318) k_ from fun k_ hk=>rh (Kd.N_lt (by (with_reducible repeat (first|apply na|apply nd_|apply ne_));exact HO319.out)) k_ hk) _ (Nat.le_refl _)) (Below.refl _ _) (Nat.le_refl _) (by simp) ?_;(case hd=>rfl);(case hg=>rfl);(case hr=>first|(go_simp;done)|(go_simp;rfl));(case hp=>exact (Reps.one (show Kd.FK (Kd.slice 3 (Kd.int .i64)) _ _ y320 [.slice Ao38 y320.length co38] from (Kd.FK_slice_mk (rd_ (rm (ok':=(fun k_=>nb k_ v318)) (Kd.R_apart' (HO322.out) (Kd.N_typed HO319.out) (by decide)) (fun k_ hk=>hk.2))).2.1 (Kd.R_F (rm (ok':=(fun k_=>nb k_ v318)) (Kd.R_apart' (HO322.out) (Kd.N_typed HO319.out) (by decide)) (fun k_ hk=>hk.2))))) (Reps.one (show Kd.FK (Kd.slice 3 (Kd.int .i64)) _ _ y323 [.slice Ao39 y323.length co39] from (Kd.FK_slice_mk (rd_ (rm (ok':=(fun k_=>nb k_ v318)) (Kd.R_apart' (HO325.out) (Kd.N_typed HO319.out) (by decide)) (fun k_ hk=>hk.2))).2.1 (Kd.R_F (rm (ok':=(fun k_=>nb k_ v318)) (Kd.R_apart' (HO325.out) (Kd.N_typed HO319.out) (by decide)) (fun k_ hk=>hk.2))))) (Reps.none _ _))));intro v327 w40 ho41 hb hg_ hnew_;clear hg_ hnew_;(first|rw [← Ny326.out] at ho41|(simp only [Int.reduceToNat] at ho41;rw [← Ny326.out] at ho41));have n0_:=A_ (Kd.N_elder' (by (with_reducible repeat (first|apply na|apply nd_|apply ne_));exact HO319.out) (Kd.N_base ho41) hb);have n1_:=A_ (Kd.N_lower ho41 (below_size (by repeat (first|(with_reducible first|exact HB.out|apply ba|apply bb|apply bc)|exact HB.out))));have n2_:=A_ (below_step (by repeat (first|(with_reducible first|exact HB.out|apply ba|apply bb|apply bc)|exact HB.out)) hb);clear HO319;clear HB;clear HO322;clear HO325;have HO319:=n0_;have HO328:=n1_;have HB:=n2_;clear n0_ n1_ n2_;clear hb ho41;obtain ⟨Ao42,co42,eo42⟩:=Kd.N_slice HO319.out;subst eo42;obtain ⟨Ao43,co43,eo43⟩:=Kd.N_slice HO328.out;subst eo43)|((with_reducible refine gate_callee (f:=11) rfl ?_);refine goesL_ (some 16) rfl rfl Try.func11 (by kernel_rfl) rfl #[.slice Ao42 y317.length co42,.slice Ao43 y326.length co43,.int .i64 1] rfl (by (try simp only [List.map_toArray,List.map_cons,List.map_nil]);first|done|rfl|(simp only [List.length_drop,List.length_take];rfl)) ?_;(with_reducible refine (channels_Apart.calls k _ _ y317 _ _ y326 1 t329 t330 _ ?side1 ?side2 ?side3 ?side4 A1.out).mono ?_);(case side1=>repeat (first|exact (Kd.N_reads' HO319.out).2.2|(with_reducible refine ca ?_ _)|(with_reducible refine cb ?_ _)|(with_reducible refine cc ?_)));(case side2=>exact (Kd.N_reads' HO319.out).2.1);(case side3=>repeat (first|exact (Kd.N_reads' HO328.out).2.2|(with_reducible refine ca ?_ _)|(with_reducible refine cb ?_ _)|(with_reducible refine cc ?_)));(case side4=>exact (Kd.N_reads' HO328.out).2.1);rintro e w44 ⟨rfl,hb⟩;refine ⟨_,rfl,?_⟩;have n0_:=A_ (Kd.N_below (by (with_reducible repeat (first|apply na|apply nd_|apply ne_));exact HO319.out) hb);have n1_:=A_ (Kd.N_below (by (with_reducible repeat (first|apply na|apply nd_|apply ne_));exact HO328.out) hb);have n2_:=A_ (below_step (by repeat (first|(with_reducible first|exact HB.out|apply ba|apply bb|apply bc)|exact HB.out)) hb);clear HO319;clear HO328;clear HB;have HO319:=n0_;have HO328:=n1_;have HB:=n2_;clear n0_ n1_ n2_;(try clear hb);(try clear hb2);(try clear hk);(try clear hi))|((with_reducible refine gate_callee (f:=12) rfl ?_);refine goesL_ (some 22) rfl rfl Try.func12 (by kernel_rfl) rfl #[.slice Ao42 y317.length co42,.slice Ao43 y326.length co43,.int .i64 1] rfl (by (try simp only [List.map_toArray,List.map_cons,List.map_nil]);first|done|rfl|(simp only [List.length_drop,List.length_take];rfl)) ?_;(with_reducible refine (channels_Together.calls k _ _ y317 _ _ y326 1 t331 t332 _ ?side1 ?side2 ?side3 ?side4 A2.out).mono ?_);(case side1=>repeat (first|exact (Kd.N_reads' HO319.out).2.2|(with_reducible refine ca ?_ _)|(with_reducible refine cb ?_ _)|(with_reducible refine cc ?_)));(case side2=>exact (Kd.N_reads' HO319.out).2.1);(case side3=>repeat (first|exact (Kd.N_reads' HO328.out).2.2|(with_reducible refine ca ?_ _)|(with_reducible refine cb ?_ _)|(with_reducible refine cc ?_)));(case side4=>exact (Kd.N_reads' HO328.out).2.1);rintro e w45 ⟨rfl,hb⟩;refine ⟨_,rfl,?_⟩;have n0_:=A_ (Kd.N_below (by (with_reducible repeat (first|apply na|apply nd_|apply ne_));exact HO319.out) hb);have n1_:=A_ (Kd.N_below (by (with_reducible repeat (first|apply na|apply nd_|apply ne_));exact HO328.out) hb);have n2_:=A_ (below_step (by repeat (first|(with_reducible first|exact HB.out|apply ba|apply bb|apply bc)|exact HB.out)) hb);clear HO319;clear HO328;clear HB;have HO319:=n0_;have HO328:=n1_;have HB:=n2_;clear n0_ n1_ n2_;(try clear hb);(try clear hb2);(try clear hk);(try clear hi)))
    go_ret
    exact ⟨by first|rfl|(simp [errW_none,errW_some] <;> rfl)|(simp [*,errW_none,errW_some] <;> rfl),by repeat (first|(with_reducible first|exact HB.out|apply ba|apply bb|apply bc)|exact HB.out)⟩
  ·
   rw [if_neg c4] at H
   have c4b0 : (t329 == 0) = false:=beq_eq_false_iff_ne.mpr c4
   have c4b1 : (t329 != 0) = true:=bne_iff_ne.mpr c4
   obtain rfl:=Option.some.inj H
   go_enter Try.func15,Try.ntmps15
   go_wp2_with (first|((with_reducible refine gate_dst (N:=7) rfl ?_);refine Kd.R_lit (Kd.int .i64) _ 3 ?hg (N:=7) ?hd (xs:=([0,0,5] : List Int)) (inner:=[.int .i64 0,.int .i64 0,.int .i64 5]) (ok:=fun _=>True) (okp:=fun _=>True) ?hr ?hp (fun _ hk=>hk) trivial (Below.refl _ _) (Nat.le_refl _) (by simp) ?_;(case hd=>rfl);(case hg=>rfl);(case hr=>first|(go_simp;done)|(go_simp;rfl));(case hp=>exact (Reps.one (show Kd.M (Kd.int .i64) _ _ _ 0 [.int .i64 0] from rfl) (Reps.one (show Kd.M (Kd.int .i64) _ _ _ 0 [.int .i64 0] from rfl) (Reps.one (show Kd.M (Kd.int .i64) _ _ _ 5 [.int .i64 5] from rfl) (Reps.none _ _)))));intro v312 w46 ho47 hb hg_ hnew_;clear hg_ hnew_;(first|rw [← Ny311.out] at ho47|(simp only [Int.reduceToNat] at ho47;rw [← Ny311.out] at ho47));have n0_:=A_ (Kd.R_lower ho47 (below_size (by repeat (first|(with_reducible first|exact HB.out|apply ba|apply bb|apply bc)|exact HB.out))));have n1_:=A_ (below_step (by repeat (first|(with_reducible first|exact HB.out|apply ba|apply bb|apply bc)|exact HB.out)) hb);clear HB;have HO313:=n0_;have HB:=n1_;clear n0_ n1_;clear hb ho47)|((with_reducible refine gate_dst (N:=8) rfl ?_);refine Kd.R_lit (Kd.int .i64) _ 3 ?hg (N:=8) ?hd (xs:=([0,5,5] : List Int)) (inner:=[.int .i64 0,.int .i64 5,.int .i64 5]) (ok:=fun _=>True) (okp:=fun _=>True) ?hr ?hp (fun _ hk=>hk) trivial (Below.refl _ _) (Nat.le_refl _) (by simp) ?_;(case hd=>rfl);(case hg=>rfl);(case hr=>first|(go_simp;done)|(go_simp;rfl));(case hp=>exact (Reps.one (show Kd.M (Kd.int .i64) _ _ _ 0 [.int .i64 0] from rfl) (Reps.one (show Kd.M (Kd.int .i64) _ _ _ 5 [.int .i64 5] from rfl) (Reps.one (show Kd.M (Kd.int .i64) _ _ _ 5 [.int .i64 5] from rfl) (Reps.none _ _)))));intro v315 w48 ho49 hb hg_ hnew_;clear hg_ hnew_;(first|rw [← Ny314.out] at ho49|(simp only [Int.reduceToNat] at ho49;rw [← Ny314.out] at ho49));have n0_:=A_ (re (by (with_reducible repeat (first|apply ra|apply rb|apply rc));exact HO313.out) (rs ho49) hb);have n1_:=A_ (Kd.R_lower (rn ho49 (rl (by (with_reducible repeat (first|apply ra|apply rb|apply rc));exact HO313.out))) (below_size (by repeat (first|(with_reducible first|exact HB.out|apply ba|apply bb|apply bc)|exact HB.out))));have n2_:=A_ (below_step (by repeat (first|(with_reducible first|exact HB.out|apply ba|apply bb|apply bc)|exact HB.out)) hb);clear HO313;clear HB;have HO313:=n0_;have HO316:=n1_;have HB:=n2_;clear n0_ n1_ n2_;clear hb ho49;obtain ⟨Ao50,co50,eo50⟩:=Kd.R_slice HO313.out;subst eo50;obtain ⟨Ao51,co51,eo51⟩:=Kd.R_slice HO316.out;subst eo51)|((with_reducible refine gate_dst (N:=9) rfl ?_);refine Kd.N_lit (Kd.slice 3 (Kd.int .i64)) _ 22 ?hg (N':=9) ?hd (xs:=([y311,y314] : List (List Int))) (inner:=[.slice Ao50 y311.length co50,.slice Ao51 y314.length co51]) (ok:=(fun _=>True)) (okp:=(fun _=>True)) ?hr ?hp (fun _ hk=>hk) ((show ∀ k_,w48.heap.size ≤ k_ → (fun _=>True) k_ from fun k_ hk=>trivial) _ (Nat.le_refl _)) (Below.refl _ _) (Nat.le_refl _) (by simp) ?_;(case hd=>rfl);(case hg=>rfl);(case hr=>first|(go_simp;done)|(go_simp;rfl));(case hp=>exact (Reps.one (show Kd.FK (Kd.slice 3 (Kd.int .i64)) _ _ y311 [.slice Ao50 y311.length co50] from (Kd.FK_slice_mk (rd_ (rm (ok':=(fun _=>True)) (HO313.out) (fun k_ hk=>trivial))).2.1 (Kd.R_F (rm (ok':=(fun _=>True)) (HO313.out) (fun k_ hk=>trivial))))) (Reps.one (show Kd.FK (Kd.slice 3 (Kd.int .i64)) _ _ y314 [.slice Ao51 y314.length co51] from (Kd.FK_slice_mk (rd_ (rm (ok':=(fun _=>True)) (HO316.out) (fun k_ hk=>trivial))).2.1 (Kd.R_F (rm (ok':=(fun _=>True)) (HO316.out) (fun k_ hk=>trivial))))) (Reps.none _ _))));intro v318 w52 ho53 hb hg_ hnew_;clear hg_ hnew_;(first|rw [← Ny317.out] at ho53|(simp only [Int.reduceToNat] at ho53;rw [← Ny317.out] at ho53));have n0_:=A_ (Kd.N_lower ho53 (below_size (by repeat (first|(with_reducible first|exact HB.out|apply ba|apply bb|apply bc)|exact HB.out))));have n1_:=A_ (below_step (by repeat (first|(with_reducible first|exact HB.out|apply ba|apply bb|apply bc)|exact HB.out)) hb);clear HB;clear HO313;clear HO316;have HO319:=n0_;have HB:=n1_;clear n0_ n1_;clear hb ho53)|((with_reducible refine gate_dst (N:=10) rfl ?_);refine Kd.R_lit (Kd.int .i64) _ 3 ?hg (N:=10) ?hd (xs:=([0,5,5] : List Int)) (inner:=[.int .i64 0,.int .i64 5,.int .i64 5]) (ok:=fun _=>True) (okp:=fun _=>True) ?hr ?hp (fun _ hk=>hk) trivial (Below.refl _ _) (Nat.le_refl _) (by simp) ?_;(case hd=>rfl);(case hg=>rfl);(case hr=>first|(go_simp;done)|(go_simp;rfl));(case hp=>exact (Reps.one (show Kd.M (Kd.int .i64) _ _ _ 0 [.int .i64 0] from rfl) (Reps.one (show Kd.M (Kd.int .i64) _ _ _ 5 [.int .i64 5] from rfl) (Reps.one (show Kd.M (Kd.int .i64) _ _ _ 5 [.int .i64 5] from rfl) (Reps.none _ _)))));intro v321 w54 ho55 hb hg_ hnew_;clear hg_ hnew_;(first|rw [← Ny320.out] at ho55|(simp only [Int.reduceToNat] at ho55;rw [← Ny320.out] at ho55));have n0_:=A_ (Kd.N_elder' (by (with_reducible repeat (first|apply na|apply nd_|apply ne_));exact HO319.out) (rs ho55) hb);have n1_:=A_ (Kd.R_lower ho55 (below_size (by repeat (first|(with_reducible first|exact HB.out|apply ba|apply bb|apply bc)|exact HB.out))));have n2_:=A_ (below_step (by repeat (first|(with_reducible first|exact HB.out|apply ba|apply bb|apply bc)|exact HB.out)) hb);clear HO319;clear HB;have HO319:=n0_;have HO322:=n1_;have HB:=n2_;clear n0_ n1_ n2_;clear hb ho55)|((with_reducible refine gate_dst (N:=11) rfl ?_);refine Kd.R_lit (Kd.int .i64) _ 3 ?hg (N:=11) ?hd (xs:=([0,0,5] : List Int)) (inner:=[.int .i64 0,.int .i64 0,.int .i64 5]) (ok:=fun _=>True) (okp:=fun _=>True) ?hr ?hp (fun _ hk=>hk) trivial (Below.refl _ _) (Nat.le_refl _) (by simp) ?_;(case hd=>rfl);(case hg=>rfl);(case hr=>first|(go_simp;done)|(go_simp;rfl));(case hp=>exact (Reps.one (show Kd.M (Kd.int .i64) _ _ _ 0 [.int .i64 0] from rfl) (Reps.one (show Kd.M (Kd.int .i64) _ _ _ 0 [.int .i64 0] from rfl) (Reps.one (show Kd.M (Kd.int .i64) _ _ _ 5 [.int .i64 5] from rfl) (Reps.none _ _)))));intro v324 w56 ho57 hb hg_ hnew_;clear hg_ hnew_;(first|rw [← Ny323.out] at ho57|(simp only [Int.reduceToNat] at ho57;rw [← Ny323.out] at ho57));have n0_:=A_ (Kd.N_elder' (by (with_reducible repeat (first|apply na|apply nd_|apply ne_));exact HO319.out) (rs ho57) hb);have n1_:=A_ (re (by (with_reducible repeat (first|apply ra|apply rb|apply rc));exact HO322.out) (rs ho57) hb);have n2_:=A_ (Kd.R_lower (rn ho57 (rl (by (with_reducible repeat (first|apply ra|apply rb|apply rc));exact HO322.out))) (below_size (by repeat (first|(with_reducible first|exact HB.out|apply ba|apply bb|apply bc)|exact HB.out))));have n3_:=A_ (below_step (by repeat (first|(with_reducible first|exact HB.out|apply ba|apply bb|apply bc)|exact HB.out)) hb);clear HO319;clear HO322;clear HB;have HO319:=n0_;have HO322:=n1_;have HO325:=n2_;have HB:=n3_;clear n0_ n1_ n2_ n3_;clear hb ho57;obtain ⟨Ao58,co58,eo58⟩:=Kd.R_slice HO322.out;subst eo58;obtain ⟨Ao59,co59,eo59⟩:=Kd.R_slice HO325.out;subst eo59)|((with_reducible refine gate_dst (N:=12) rfl ?_);refine Kd.N_lit (Kd.slice 3 (Kd.int .i64)) _ 22 ?hg (N':=12) ?hd (xs:=([y320,y323] : List (List Int))) (inner:=[.slice Ao58 y320.length co58,.slice Ao59 y323.length co59]) (ok:=(fun k_=>nb k_ v318)) (okp:=(fun k_=>nb k_ v318)) ?hr ?hp (fun _ hk=>hk) ((show ∀ k_,w56.heap.size ≤ k_ → (fun k_=>nb k_ v318) k_ from fun k_ hk=>rh (Kd.N_lt (by (with_reducible repeat (first|apply na|apply nd_|apply ne_));exact HO319.out)) k_ hk) _ (Nat.le_refl _)) (Below.refl _ _) (Nat.le_refl _) (by simp) ?_;(case hd=>rfl);(case hg=>rfl);(case hr=>first|(go_simp;done)|(go_simp;rfl));(case hp=>exact (Reps.one (show Kd.FK (Kd.slice 3 (Kd.int .i64)) _ _ y320 [.slice Ao58 y320.length co58] from (Kd.FK_slice_mk (rd_ (rm (ok':=(fun k_=>nb k_ v318)) (Kd.R_apart' (HO322.out) (Kd.N_typed HO319.out) (by decide)) (fun k_ hk=>hk.2))).2.1 (Kd.R_F (rm (ok':=(fun k_=>nb k_ v318)) (Kd.R_apart' (HO322.out) (Kd.N_typed HO319.out) (by decide)) (fun k_ hk=>hk.2))))) (Reps.one (show Kd.FK (Kd.slice 3 (Kd.int .i64)) _ _ y323 [.slice Ao59 y323.length co59] from (Kd.FK_slice_mk (rd_ (rm (ok':=(fun k_=>nb k_ v318)) (Kd.R_apart' (HO325.out) (Kd.N_typed HO319.out) (by decide)) (fun k_ hk=>hk.2))).2.1 (Kd.R_F (rm (ok':=(fun k_=>nb k_ v318)) (Kd.R_apart' (HO325.out) (Kd.N_typed HO319.out) (by decide)) (fun k_ hk=>hk.2))))) (Reps.none _ _))));intro v327 w60 ho61 hb hg_ hnew_;clear hg_ hnew_;(first|rw [← Ny326.out] at ho61|(simp only [Int.reduceToNat] at ho61;rw [← Ny326.out] at ho61));have n0_:=A_ (Kd.N_elder' (by (with_reducible repeat (first|apply na|apply nd_|apply ne_));exact HO319.out) (Kd.N_base ho61) hb);have n1_:=A_ (Kd.N_lower ho61 (below_size (by repeat (first|(with_reducible first|exact HB.out|apply ba|apply bb|apply bc)|exact HB.out))));have n2_:=A_ (below_step (by repeat (first|(with_reducible first|exact HB.out|apply ba|apply bb|apply bc)|exact HB.out)) hb);clear HO319;clear HB;clear HO322;clear HO325;have HO319:=n0_;have HO328:=n1_;have HB:=n2_;clear n0_ n1_ n2_;clear hb ho61;obtain ⟨Ao62,co62,eo62⟩:=Kd.N_slice HO319.out;subst eo62;obtain ⟨Ao63,co63,eo63⟩:=Kd.N_slice HO328.out;subst eo63)|((with_reducible refine gate_callee (f:=11) rfl ?_);refine goesL_ (some 16) rfl rfl Try.func11 (by kernel_rfl) rfl #[.slice Ao62 y317.length co62,.slice Ao63 y326.length co63,.int .i64 1] rfl (by (try simp only [List.map_toArray,List.map_cons,List.map_nil]);first|done|rfl|(simp only [List.length_drop,List.length_take];rfl)) ?_;(with_reducible refine (channels_Apart.calls k _ _ y317 _ _ y326 1 t329 t330 _ ?side1 ?side2 ?side3 ?side4 A1.out).mono ?_);(case side1=>repeat (first|exact (Kd.N_reads' HO319.out).2.2|(with_reducible refine ca ?_ _)|(with_reducible refine cb ?_ _)|(with_reducible refine cc ?_)));(case side2=>exact (Kd.N_reads' HO319.out).2.1);(case side3=>repeat (first|exact (Kd.N_reads' HO328.out).2.2|(with_reducible refine ca ?_ _)|(with_reducible refine cb ?_ _)|(with_reducible refine cc ?_)));(case side4=>exact (Kd.N_reads' HO328.out).2.1);rintro e w64 ⟨rfl,hb⟩;refine ⟨_,rfl,?_⟩;have n0_:=A_ (Kd.N_below (by (with_reducible repeat (first|apply na|apply nd_|apply ne_));exact HO319.out) hb);have n1_:=A_ (Kd.N_below (by (with_reducible repeat (first|apply na|apply nd_|apply ne_));exact HO328.out) hb);have n2_:=A_ (below_step (by repeat (first|(with_reducible first|exact HB.out|apply ba|apply bb|apply bc)|exact HB.out)) hb);clear HO319;clear HO328;clear HB;have HO319:=n0_;have HO328:=n1_;have HB:=n2_;clear n0_ n1_ n2_;(try clear hb);(try clear hb2);(try clear hk);(try clear hi))|((with_reducible refine gate_callee (f:=12) rfl ?_);refine goesL_ (some 22) rfl rfl Try.func12 (by kernel_rfl) rfl #[.slice Ao62 y317.length co62,.slice Ao63 y326.length co63,.int .i64 1] rfl (by (try simp only [List.map_toArray,List.map_cons,List.map_nil]);first|done|rfl|(simp only [List.length_drop,List.length_take];rfl)) ?_;(with_reducible refine (channels_Together.calls k _ _ y317 _ _ y326 1 t331 t332 _ ?side1 ?side2 ?side3 ?side4 A2.out).mono ?_);(case side1=>repeat (first|exact (Kd.N_reads' HO319.out).2.2|(with_reducible refine ca ?_ _)|(with_reducible refine cb ?_ _)|(with_reducible refine cc ?_)));(case side2=>exact (Kd.N_reads' HO319.out).2.1);(case side3=>repeat (first|exact (Kd.N_reads' HO328.out).2.2|(with_reducible refine ca ?_ _)|(with_reducible refine cb ?_ _)|(with_reducible refine cc ?_)));(case side4=>exact (Kd.N_reads' HO328.out).2.1);rintro e w65 ⟨rfl,hb⟩;refine ⟨_,rfl,?_⟩;have n0_:=A_ (Kd.N_below (by (with_reducible repeat (first|apply na|apply nd_|apply ne_));exact HO319.out) hb);have n1_:=A_ (Kd.N_below (by (with_reducible repeat (first|apply na|apply nd_|apply ne_));exact HO328.out) hb);have n2_:=A_ (below_step (by repeat (first|(with_reducible first|exact HB.out|apply ba|apply bb|apply bc)|exact HB.out)) hb);clear HO319;clear HO328;clear HB;have HO319:=n0_;have HO328:=n1_;have HB:=n2_;clear n0_ n1_ n2_;(try clear hb);(try clear hb2);(try clear hk);(try clear hi)))
   go_ret
   exact ⟨by first|rfl|(simp [errW_none,errW_some] <;> rfl)|(simp [*,errW_none,errW_some] <;> rfl),by repeat (first|(with_reducible first|exact HB.out|apply ba|apply bb|apply bc)|exact HB.out)⟩
 ·
  rw [if_neg c3] at H
  have c3b0 : (t330 == 0) = false:=beq_eq_false_iff_ne.mpr c3
  have c3b1 : (t330 != 0) = true:=bne_iff_ne.mpr c3
  obtain rfl:=Option.some.inj H
  go_enter Try.func15,Try.ntmps15
  go_wp2_with (first|((with_reducible refine gate_dst (N:=7) rfl ?_);refine Kd.R_lit (Kd.int .i64) _ 3 ?hg (N:=7) ?hd (xs:=([0,0,5] : List Int)) (inner:=[.int .i64 0,.int .i64 0,.int .i64 5]) (ok:=fun _=>True) (okp:=fun _=>True) ?hr ?hp (fun _ hk=>hk) trivial (Below.refl _ _) (Nat.le_refl _) (by simp) ?_;(case hd=>rfl);(case hg=>rfl);(case hr=>first|(go_simp;done)|(go_simp;rfl));(case hp=>exact (Reps.one (show Kd.M (Kd.int .i64) _ _ _ 0 [.int .i64 0] from rfl) (Reps.one (show Kd.M (Kd.int .i64) _ _ _ 0 [.int .i64 0] from rfl) (Reps.one (show Kd.M (Kd.int .i64) _ _ _ 5 [.int .i64 5] from rfl) (Reps.none _ _)))));intro v312 w66 ho67 hb hg_ hnew_;clear hg_ hnew_;(first|rw [← Ny311.out] at ho67|(simp only [Int.reduceToNat] at ho67;rw [← Ny311.out] at ho67));have n0_:=A_ (Kd.R_lower ho67 (below_size (by repeat (first|(with_reducible first|exact HB.out|apply ba|apply bb|apply bc)|exact HB.out))));have n1_:=A_ (below_step (by repeat (first|(with_reducible first|exact HB.out|apply ba|apply bb|apply bc)|exact HB.out)) hb);clear HB;have HO313:=n0_;have HB:=n1_;clear n0_ n1_;clear hb ho67)|((with_reducible refine gate_dst (N:=8) rfl ?_);refine Kd.R_lit (Kd.int .i64) _ 3 ?hg (N:=8) ?hd (xs:=([0,5,5] : List Int)) (inner:=[.int .i64 0,.int .i64 5,.int .i64 5]) (ok:=fun _=>True) (okp:=fun _=>True) ?hr ?hp (fun _ hk=>hk) trivial (Below.refl _ _) (Nat.le_refl _) (by simp) ?_;(case hd=>rfl);(case hg=>rfl);(case hr=>first|(go_simp;done)|(go_simp;rfl));(case hp=>exact (Reps.one (show Kd.M (Kd.int .i64) _ _ _ 0 [.int .i64 0] from rfl) (Reps.one (show Kd.M (Kd.int .i64) _ _ _ 5 [.int .i64 5] from rfl) (Reps.one (show Kd.M (Kd.int .i64) _ _ _ 5 [.int .i64 5] from rfl) (Reps.none _ _)))));intro v315 w68 ho69 hb hg_ hnew_;clear hg_ hnew_;(first|rw [← Ny314.out] at ho69|(simp only [Int.reduceToNat] at ho69;rw [← Ny314.out] at ho69));have n0_:=A_ (re (by (with_reducible repeat (first|apply ra|apply rb|apply rc));exact HO313.out) (rs ho69) hb);have n1_:=A_ (Kd.R_lower (rn ho69 (rl (by (with_reducible repeat (first|apply ra|apply rb|apply rc));exact HO313.out))) (below_size (by repeat (first|(with_reducible first|exact HB.out|apply ba|apply bb|apply bc)|exact HB.out))));have n2_:=A_ (below_step (by repeat (first|(with_reducible first|exact HB.out|apply ba|apply bb|apply bc)|exact HB.out)) hb);clear HO313;clear HB;have HO313:=n0_;have HO316:=n1_;have HB:=n2_;clear n0_ n1_ n2_;clear hb ho69;obtain ⟨Ao70,co70,eo70⟩:=Kd.R_slice HO313.out;subst eo70;obtain ⟨Ao71,co71,eo71⟩:=Kd.R_slice HO316.out;subst eo71)|((with_reducible refine gate_dst (N:=9) rfl ?_);refine Kd.N_lit (Kd.slice 3 (Kd.int .i64)) _ 22 ?hg (N':=9) ?hd (xs:=([y311,y314] : List (List Int))) (inner:=[.slice Ao70 y311.length co70,.slice Ao71 y314.length co71]) (ok:=(fun _=>True)) (okp:=(fun _=>True)) ?hr ?hp (fun _ hk=>hk) ((show ∀ k_,w68.heap.size ≤ k_ → (fun _=>True) k_ from fun k_ hk=>trivial) _ (Nat.le_refl _)) (Below.refl _ _) (Nat.le_refl _) (by simp) ?_;(case hd=>rfl);(case hg=>rfl);(case hr=>first|(go_simp;done)|(go_simp;rfl));(case hp=>exact (Reps.one (show Kd.FK (Kd.slice 3 (Kd.int .i64)) _ _ y311 [.slice Ao70 y311.length co70] from (Kd.FK_slice_mk (rd_ (rm (ok':=(fun _=>True)) (HO313.out) (fun k_ hk=>trivial))).2.1 (Kd.R_F (rm (ok':=(fun _=>True)) (HO313.out) (fun k_ hk=>trivial))))) (Reps.one (show Kd.FK (Kd.slice 3 (Kd.int .i64)) _ _ y314 [.slice Ao71 y314.length co71] from (Kd.FK_slice_mk (rd_ (rm (ok':=(fun _=>True)) (HO316.out) (fun k_ hk=>trivial))).2.1 (Kd.R_F (rm (ok':=(fun _=>True)) (HO316.out) (fun k_ hk=>trivial))))) (Reps.none _ _))));intro v318 w72 ho73 hb hg_ hnew_;clear hg_ hnew_;(first|rw [← Ny317.out] at ho73|(simp only [Int.reduceToNat] at ho73;rw [← Ny317.out] at ho73));have n0_:=A_ (Kd.N_lower ho73 (below_size (by repeat (first|(with_reducible first|exact HB.out|apply ba|apply bb|apply bc)|exact HB.out))));have n1_:=A_ (below_step (by repeat (first|(with_reducible first|exact HB.out|apply ba|apply bb|apply bc)|exact HB.out)) hb);clear HB;clear HO313;clear HO316;have HO319:=n0_;have HB:=n1_;clear n0_ n1_;clear hb ho73)|((with_reducible refine gate_dst (N:=10) rfl ?_);refine Kd.R_lit (Kd.int .i64) _ 3 ?hg (N:=10) ?hd (xs:=([0,5,5] : List Int)) (inner:=[.int .i64 0,.int .i64 5,.int .i64 5]) (ok:=fun _=>True) (okp:=fun _=>True) ?hr ?hp (fun _ hk=>hk) trivial (Below.refl _ _) (Nat.le_refl _) (by simp) ?_;(case hd=>rfl);(case hg=>rfl);(case hr=>first|(go_simp;done)|(go_simp;rfl));(case hp=>exact (Reps.one (show Kd.M (Kd.int .i64) _ _ _ 0 [.int .i64 0] from rfl) (Reps.one (show Kd.M (Kd.int .i64) _ _ _ 5 [.int .i64 5] from rfl) (Reps.one (show Kd.M (Kd.int .i64) _ _ _ 5 [.int .i64 5] from rfl) (Reps.none _ _)))));intro v321 w74 ho75 hb hg_ hnew_;clear hg_ hnew_;(first|rw [← Ny320.out] at ho75|(simp only [Int.reduceToNat] at ho75;rw [← Ny320.out] at ho75));have n0_:=A_ (Kd.N_elder' (by (with_reducible repeat (first|apply na|apply nd_|apply ne_));exact HO319.out) (rs ho75) hb);have n1_:=A_ (Kd.R_lower ho75 (below_size (by repeat (first|(with_reducible first|exact HB.out|apply ba|apply bb|apply bc)|exact HB.out))));have n2_:=A_ (below_step (by repeat (first|(with_reducible first|exact HB.out|apply ba|apply bb|apply bc)|exact HB.out)) hb);clear HO319;clear HB;have HO319:=n0_;have HO322:=n1_;have HB:=n2_;clear n0_ n1_ n2_;clear hb ho75)|((with_reducible refine gate_dst (N:=11) rfl ?_);refine Kd.R_lit (Kd.int .i64) _ 3 ?hg (N:=11) ?hd (xs:=([0,0,5] : List Int)) (inner:=[.int .i64 0,.int .i64 0,.int .i64 5]) (ok:=fun _=>True) (okp:=fun _=>True) ?hr ?hp (fun _ hk=>hk) trivial (Below.refl _ _) (Nat.le_refl _) (by simp) ?_;(case hd=>rfl);(case hg=>rfl);(case hr=>first|(go_simp;done)|(go_simp;rfl));(case hp=>exact (Reps.one (show Kd.M (Kd.int .i64) _ _ _ 0 [.int .i64 0] from rfl) (Reps.one (show Kd.M (Kd.int .i64) _ _ _ 0 [.int .i64 0] from rfl) (Reps.one (show Kd.M (Kd.int .i64) _ _ _ 5 [.int .i64 5] from rfl) (Reps.none _ _)))));intro v324 w76 ho77 hb hg_ hnew_;clear hg_ hnew_;(first|rw [← Ny323.out] at ho77|(simp only [Int.reduceToNat] at ho77;rw [← Ny323.out] at ho77));have n0_:=A_ (Kd.N_elder' (by (with_reducible repeat (first|apply na|apply nd_|apply ne_));exact HO319.out) (rs ho77) hb);have n1_:=A_ (re (by (with_reducible repeat (first|apply ra|apply rb|apply rc));exact HO322.out) (rs ho77) hb);have n2_:=A_ (Kd.R_lower (rn ho77 (rl (by (with_reducible repeat (first|apply ra|apply rb|apply rc));exact HO322.out))) (below_size (by repeat (first|(with_reducible first|exact HB.out|apply ba|apply bb|apply bc)|exact HB.out))));have n3_:=A_ (below_step (by repeat (first|(with_reducible first|exact HB.out|apply ba|apply bb|apply bc)|exact HB.out)) hb);clear HO319;clear HO322;clear HB;have HO319:=n0_;have HO322:=n1_;have HO325:=n2_;have HB:=n3_;clear n0_ n1_ n2_ n3_;clear hb ho77;obtain ⟨Ao78,co78,eo78⟩:=Kd.R_slice HO322.out;subst eo78;obtain ⟨Ao79,co79,eo79⟩:=Kd.R_slice HO325.out;subst eo79)|((with_reducible refine gate_dst (N:=12) rfl ?_);refine Kd.N_lit (Kd.slice 3 (Kd.int .i64)) _ 22 ?hg (N':=12) ?hd (xs:=([y320,y323] : List (List Int))) (inner:=[.slice Ao78 y320.length co78,.slice Ao79 y323.length co79]) (ok:=(fun k_=>nb k_ v318)) (okp:=(fun k_=>nb k_ v318)) ?hr ?hp (fun _ hk=>hk) ((show ∀ k_,w76.heap.size ≤ k_ → (fun k_=>nb k_ v318) k_ from fun k_ hk=>rh (Kd.N_lt (by (with_reducible repeat (first|apply na|apply nd_|apply ne_));exact HO319.out)) k_ hk) _ (Nat.le_refl _)) (Below.refl _ _) (Nat.le_refl _) (by simp) ?_;(case hd=>rfl);(case hg=>rfl);(case hr=>first|(go_simp;done)|(go_simp;rfl));(case hp=>exact (Reps.one (show Kd.FK (Kd.slice 3 (Kd.int .i64)) _ _ y320 [.slice Ao78 y320.length co78] from (Kd.FK_slice_mk (rd_ (rm (ok':=(fun k_=>nb k_ v318)) (Kd.R_apart' (HO322.out) (Kd.N_typed HO319.out) (by decide)) (fun k_ hk=>hk.2))).2.1 (Kd.R_F (rm (ok':=(fun k_=>nb k_ v318)) (Kd.R_apart' (HO322.out) (Kd.N_typed HO319.out) (by decide)) (fun k_ hk=>hk.2))))) (Reps.one (show Kd.FK (Kd.slice 3 (Kd.int .i64)) _ _ y323 [.slice Ao79 y323.length co79] from (Kd.FK_slice_mk (rd_ (rm (ok':=(fun k_=>nb k_ v318)) (Kd.R_apart' (HO325.out) (Kd.N_typed HO319.out) (by decide)) (fun k_ hk=>hk.2))).2.1 (Kd.R_F (rm (ok':=(fun k_=>nb k_ v318)) (Kd.R_apart' (HO325.out) (Kd.N_typed HO319.out) (by decide)) (fun k_ hk=>hk.2))))) (Reps.none _ _))));intro v327 w80 ho81 hb hg_ hnew_;clear hg_ hnew_;(first|rw [← Ny326.out] at ho81|(simp only [Int.reduceToNat] at ho81;rw [← Ny326.out] at ho81));have n0_:=A_ (Kd.N_elder' (by (with_reducible repeat (first|apply na|apply nd_|apply ne_));exact HO319.out) (Kd.N_base ho81) hb);have n1_:=A_ (Kd.N_lower ho81 (below_size (by repeat (first|(with_reducible first|exact HB.out|apply ba|apply bb|apply bc)|exact HB.out))));have n2_:=A_ (below_step (by repeat (first|(with_reducible first|exact HB.out|apply ba|apply bb|apply bc)|exact HB.out)) hb);clear HO319;clear HB;clear HO322;clear HO325;have HO319:=n0_;have HO328:=n1_;have HB:=n2_;clear n0_ n1_ n2_;clear hb ho81;obtain ⟨Ao82,co82,eo82⟩:=Kd.N_slice HO319.out;subst eo82;obtain ⟨Ao83,co83,eo83⟩:=Kd.N_slice HO328.out;subst eo83)|((with_reducible refine gate_callee (f:=11) rfl ?_);refine goesL_ (some 16) rfl rfl Try.func11 (by kernel_rfl) rfl #[.slice Ao82 y317.length co82,.slice Ao83 y326.length co83,.int .i64 1] rfl (by (try simp only [List.map_toArray,List.map_cons,List.map_nil]);first|done|rfl|(simp only [List.length_drop,List.length_take];rfl)) ?_;(with_reducible refine (channels_Apart.calls k _ _ y317 _ _ y326 1 t329 t330 _ ?side1 ?side2 ?side3 ?side4 A1.out).mono ?_);(case side1=>repeat (first|exact (Kd.N_reads' HO319.out).2.2|(with_reducible refine ca ?_ _)|(with_reducible refine cb ?_ _)|(with_reducible refine cc ?_)));(case side2=>exact (Kd.N_reads' HO319.out).2.1);(case side3=>repeat (first|exact (Kd.N_reads' HO328.out).2.2|(with_reducible refine ca ?_ _)|(with_reducible refine cb ?_ _)|(with_reducible refine cc ?_)));(case side4=>exact (Kd.N_reads' HO328.out).2.1);rintro e w84 ⟨rfl,hb⟩;refine ⟨_,rfl,?_⟩;have n0_:=A_ (Kd.N_below (by (with_reducible repeat (first|apply na|apply nd_|apply ne_));exact HO319.out) hb);have n1_:=A_ (Kd.N_below (by (with_reducible repeat (first|apply na|apply nd_|apply ne_));exact HO328.out) hb);have n2_:=A_ (below_step (by repeat (first|(with_reducible first|exact HB.out|apply ba|apply bb|apply bc)|exact HB.out)) hb);clear HO319;clear HO328;clear HB;have HO319:=n0_;have HO328:=n1_;have HB:=n2_;clear n0_ n1_ n2_;(try clear hb);(try clear hb2);(try clear hk);(try clear hi))|((with_reducible refine gate_callee (f:=12) rfl ?_);refine goesL_ (some 22) rfl rfl Try.func12 (by kernel_rfl) rfl #[.slice Ao82 y317.length co82,.slice Ao83 y326.length co83,.int .i64 1] rfl (by (try simp only [List.map_toArray,List.map_cons,List.map_nil]);first|done|rfl|(simp only [List.length_drop,List.length_take];rfl)) ?_;(with_reducible refine (channels_Together.calls k _ _ y317 _ _ y326 1 t331 t332 _ ?side1 ?side2 ?side3 ?side4 A2.out).mono ?_);(case side1=>repeat (first|exact (Kd.N_reads' HO319.out).2.2|(with_reducible refine ca ?_ _)|(with_reducible refine cb ?_ _)|(with_reducible refine cc ?_)));(case side2=>exact (Kd.N_reads' HO319.out).2.1);(case side3=>repeat (first|exact (Kd.N_reads' HO328.out).2.2|(with_reducible refine ca ?_ _)|(with_reducible refine cb ?_ _)|(with_reducible refine cc ?_)));(case side4=>exact (Kd.N_reads' HO328.out).2.1);rintro e w85 ⟨rfl,hb⟩;refine ⟨_,rfl,?_⟩;have n0_:=A_ (Kd.N_below (by (with_reducible repeat (first|apply na|apply nd_|apply ne_));exact HO319.out) hb);have n1_:=A_ (Kd.N_below (by (with_reducible repeat (first|apply na|apply nd_|apply ne_));exact HO328.out) hb);have n2_:=A_ (below_step (by repeat (first|(with_reducible first|exact HB.out|apply ba|apply bb|apply bc)|exact HB.out)) hb);clear HO319;clear HO328;clear HB;have HO319:=n0_;have HO328:=n1_;have HB:=n2_;clear n0_ n1_ n2_;(try clear hb);(try clear hb2);(try clear hk);(try clear hi)))
  go_ret
  exact ⟨by first|rfl|(simp [errW_none,errW_some] <;> rfl)|(simp [*,errW_none,errW_some] <;> rfl),by repeat (first|(with_reducible first|exact HB.out|apply ba|apply bb|apply bc)|exact HB.out)⟩

end Go.Proofs.Ytodipcfbgnljeaa.PChannelsPaths
