/- This file proves, function by function, what the Go functions that one law uses compute; most of it was printed by a program (wip/tools of this session, over the kit's print). -/
import Derived.Test.YtdnhfofmfpgmmaaPSegmentBackx0
import Derived.Test.YtdnhfofmfpgmmaaPSegmentBackx1
import Derived.Test.YtdnhfofmfpgmmaaPSegmentBackx2
import Derived.Test.YtdnhfofmfpgmmaaPSegmentBackx6
import Derived.Test.YtdnhfofmfpgmmaaPSegmentBackx10
namespace Go.Proofs.Ytdnhfofmfpgmmaa.PSegmentBack
open Go.RowKit Go.Proofs.YtdnhfofmfpgmmaaW.PrintWords Go.Proofs.YtdnhfofmfpgmmaaW.PrintLast Go.Proofs.YtdnhfofmfpgmmaaW.PrintMore
attribute [local go_sem] max2_int min2_int max_two min_two max_three min_three max_four min_four   -- for this text's walks alone
set_option linter.unusedVariables false
set_option linter.unusedSimpArgs false

attribute [local go_sem high] eqA27
/-! ### shapesearchkeep_Ints: function 25 -/
def shapesearchkeep_Ints.l0 : Nat → List Int → List Int → Int → Int → Option (Bool)
 | 0,_,_,_,_=>none
 | k + 1,x0,x1,x12,x13=>if x13 < x12 then (if 0 ≤ x13 then (if x13 < (x0.length : Int) then (if x13 < (x1.length : Int) then (if (rd x0 x13) = (rd x1 x13) then (shapesearchkeep_Ints.l0 k x0 x1 x12 (wrap64 (x13 + 1))) else (some false)) else (none)) else (none)) else (none)) else (some true)
def shapesearchkeep_Ints.f (k : Nat) (l0 : List Int) (l1 : List Int) : Option (Bool):=if (l0.length : Int) = (l1.length : Int) then (shapesearchkeep_Ints.l0 k l0 l1 (l0.length : Int) 0) else (some false)
theorem shapesearchkeep_Ints.mono_l : ∀ k,(∀ y0 y1 y2 y3,LeO (shapesearchkeep_Ints.l0 k y0 y1 y2 y3) (shapesearchkeep_Ints.l0 (k + 1) y0 y1 y2 y3))
 | 0=>fun _ _ _ _ r h=>by simp [shapesearchkeep_Ints.l0] at h
 | k + 1=>by
  have ih0:=shapesearchkeep_Ints.mono_l k
  ·
   intro y0 y1 y2 y3
   unfold shapesearchkeep_Ints.l0
   repeat' first|(with_reducible first|apply ih0|exact lz|refine LeO.ite ?_ ?_|refine LeO.bind ?_ fun _=>?_)
theorem shapesearchkeep_Ints.mono : ∀ a0 a1 k,LeO (shapesearchkeep_Ints.f k a0 a1) (shapesearchkeep_Ints.f (k + 1) a0 a1):=by
 intro a0 a1 k
 have ih0:=shapesearchkeep_Ints.mono_l k
 unfold shapesearchkeep_Ints.f
 repeat' first|(with_reducible first|apply ih0|exact lz|refine LeO.ite ?_ ?_|refine LeO.bind ?_ fun _=>?_)
set_option maxHeartbeats 8000000 in
set_option maxRecDepth 100000 in
theorem shapesearchkeep_Ints.calls (k : Nat) (A0 : Option Addr) (c0 : Nat) (l0 : List Int) (A1 : Option Addr) (c1 : Nat) (l1 : List Int) (r : Bool) (w : World) (hr0 : Kd.C (Kd.int .i64) w A0 l0.length l0) (hc0 : l0.length ≤ c0) (hr1 : Kd.C (Kd.int .i64) w A1 l1.length l1) (hc1 : l1.length ≤ c1) (h : shapesearchkeep_Ints.f k l0 l1 = some r) :
  Calls Try.prog 25 #[.slice A0 l0.length c0,.slice A1 l1.length c1] w fun e w'=>e = .returned (.bool r)∧Drawn0 w w':=by
 have HR0:=A_ hr0
 have HC0:=A_ hc0
 clear hr0 hc0
 have HR1:=A_ hr1
 have HC1:=A_ hc1
 clear hr1 hc1
 have H : (if (l0.length : Int) = (l1.length : Int) then (shapesearchkeep_Ints.l0 k l0 l1 (l0.length : Int) 0) else (some false)) = some r:=h
 clear h
 by_cases c3 : (l0.length : Int) = (l1.length : Int)
 ·
  rw [if_pos c3] at H
  have c3b0 : ((l0.length : Int) == (l1.length : Int)) = true:=beq_iff_eq.mpr c3
  have c3b1 : ((l0.length : Int) != (l1.length : Int)) = false:=bne_eq_false_iff_eq.mpr c3
  have c3b2 : (l0.length == l1.length) = true:=by first|simpa using c3|(simp at c3 ⊢;omega)
  clear c3
  have H':=A_ H
  clear H
  go_enter Try.func25,Try.ntmps25
  go_wp2
  repeat (go_quiet (fail);try go_wp2)
  go_loopg [13] k (fun kq v13 w'=>∃ (x13_1 : Int),v13 = .int .i64 x13_1∧Aside0 (shapesearchkeep_Ints.l0 kq l0 l1 (l0.length : Int) x13_1 = some r)∧Aside0 (kq ≤ k)∧Drawn0 w w')
  case atStart=>exact ⟨(0),uq2,H',⟨Nat.le_refl _⟩,uq7⟩
  case round =>
   clear H'
   try clear c1
   try clear c2
   try clear p2
   try clear c3
   try clear c3b0
   try clear c3b1
   try clear c3b2
   obtain ⟨x13_1,rfl,HA,HK1,⟨m1,rfl⟩⟩:=hrel
   cases gk with
   | zero=>exact absurd HA.out (by simp [shapesearchkeep_Ints.l0])
   | succ k1 =>
    have H:=HA.out
    clear HA
    simp only [shapesearchkeep_Ints.l0] at H
    by_cases c4 : x13_1 < (l0.length : Int)
    ·
     rw [if_pos c4] at H
     have c4b0 : decide (x13_1 < (l0.length : Int)) = true:=decide_eq_true c4
     clear c4
     by_cases c5 : 0 ≤ x13_1
     ·
      rw [if_pos c5] at H
      have c5b0 : decide (0 ≤ x13_1) = true:=decide_eq_true c5
      clear c5
      by_cases c6 : x13_1 < (l0.length : Int)
      ·
       rw [if_pos c6] at H
       have c6b0 : decide (x13_1 < (l0.length : Int)) = true:=decide_eq_true c6
       clear c6
       by_cases c7 : x13_1 < (l1.length : Int)
       ·
        rw [if_pos c7] at H
        have c7b0 : decide (x13_1 < (l1.length : Int)) = true:=decide_eq_true c7
        clear c7
        by_cases c8 : (rd l0 x13_1) = (rd l1 x13_1)
        ·
         rw [if_pos c8] at H
         have c8b0 : ((rd l0 x13_1) == (rd l1 x13_1)) = true:=beq_iff_eq.mpr c8
         have c8b1 : ((rd l0 x13_1) != (rd l1 x13_1)) = false:=bne_eq_false_iff_eq.mpr c8
         clear c8
         have H':=A_ H
         clear H
         have p309 : 0 ≤ (x13_1 : Int):=of_decide_eq_true uq1
         have q309 : x13_1 < (l0.length : Int):=of_decide_eq_true uq1
         obtain ⟨ad309,e309,hx309_0⟩:=Kd.at_int HR0.out x13_1 p309 q309
         cases e309
         replace p309:=eq_true p309
         replace q309:=eq_true q309
         have p310 : 0 ≤ (x13_1 : Int):=of_decide_eq_true uq1
         have q310 : x13_1 < (l1.length : Int):=of_decide_eq_true uq1
         obtain ⟨ad310,e310,hx310_0⟩:=Kd.at_int HR1.out x13_1 p310 q310
         cases e310
         replace p310:=eq_true p310
         replace q310:=eq_true q310
         go_wp2
         repeat (go_quiet (fail);try go_wp2)
         go_roundg k1
         case measure=>have:=HK1.out;omega
         case rel=>exact ⟨(wrap64 (x13_1 + 1)),uq2,H',⟨by have:=HK1.out;omega⟩,uq7⟩
        ·
         rw [if_neg c8] at H
         have c8b0 : ((rd l0 x13_1) == (rd l1 x13_1)) = false:=beq_eq_false_iff_ne.mpr c8
         have c8b1 : ((rd l0 x13_1) != (rd l1 x13_1)) = true:=bne_iff_ne.mpr c8
         obtain rfl:=Option.some.inj H
         have p309 : 0 ≤ (x13_1 : Int):=of_decide_eq_true uq1
         have q309 : x13_1 < (l0.length : Int):=of_decide_eq_true uq1
         obtain ⟨ad309,e309,hx309_0⟩:=Kd.at_int HR0.out x13_1 p309 q309
         cases e309
         replace p309:=eq_true p309
         replace q309:=eq_true q309
         have p310 : 0 ≤ (x13_1 : Int):=of_decide_eq_true uq1
         have q310 : x13_1 < (l1.length : Int):=of_decide_eq_true uq1
         obtain ⟨ad310,e310,hx310_0⟩:=Kd.at_int HR1.out x13_1 p310 q310
         cases e310
         replace p310:=eq_true p310
         replace q310:=eq_true q310
         go_wp2
         repeat (go_quiet (fail);try go_wp2)
         go_ret
         exact ⟨by first|rfl|(simp;done)|(simp [*];done),uq7⟩
       ·
        rw [if_neg c7] at H
        exact absurd H (by simp)
      ·
       rw [if_neg c6] at H
       exact absurd H (by simp)
     ·
      rw [if_neg c5] at H
      exact absurd H (by simp)
    ·
     rw [if_neg c4] at H
     have c4b0 : decide (x13_1 < (l0.length : Int)) = false:=decide_eq_false c4
     clear c4
     obtain rfl:=Option.some.inj H
     go_wp2
     repeat (go_quiet (fail);try go_wp2)
     go_ret
     exact ⟨by first|rfl|(simp;done)|(simp [*];done),uq7⟩
 ·
  rw [if_neg c3] at H
  have c3b0 : ((l0.length : Int) == (l1.length : Int)) = false:=beq_eq_false_iff_ne.mpr c3
  have c3b1 : ((l0.length : Int) != (l1.length : Int)) = true:=bne_iff_ne.mpr c3
  have c3b2 : (l0.length == l1.length) = false:=by first|simpa using c3|(simp at c3 ⊢;omega)
  obtain rfl:=Option.some.inj H
  go_enter Try.func25,Try.ntmps25
  go_wp2
  repeat (go_quiet (fail);try go_wp2)
  go_ret
  exact ⟨by first|rfl|(simp;done)|(simp [*];done),uq7⟩

/-! ### shapesearchlaw10_SegmentBack: function 5 -/
def shapesearchlaw10_SegmentBack.j0 : Nat → List Int → List Int → List Int → Bool → Int → Int → Int → Int → Int → Option (Bool)
 | 0,_,_,_,_,_,_,_,_,_=>none
 | k + 1,x1,x5,x6,x59,x334000,x334001,x334002,x334003,x334004=>if x59 = true then (some false) else ((shapesearchref10_Measure.f x5).bind fun bt335=>(if 0 < (x6.length : Int) then ((segment_Decode.f k x1).bind fun bt342=>((segment_Encode.f k bt342.1).bind fun bt346=>(if (x334000 == (wrap64 (rd x6 0)) && (x334001 == bt335.2.1 && (x334002 == bt335.2.2.1 && (x334003 == bt335.2.2.2.1 && (x334004 == bt335.2.2.2.2))))) = true then (if bt342.2 = 0 then (if bt346.2 = 0 then (if (strOfNums bt346.1).toList = (strOfNums x1).toList then ((shapesearchlaw10_awake.f k).bind fun t350=>(some t350)) else (some false)) else (some false)) else ((shapesearchlaw10_awake.f k).bind fun t351=>(some t351))) else (some false)))) else (none)))
def shapesearchlaw10_SegmentBack.f (k : Nat) (l0 : List Int) (l1 : List Int) : Option (Bool):=if (l1.length : Int) > 400 then ((shapesearchlaw10_awake.f k).bind fun t311=>(some t311)) else ((shapesearchkeep_New.f l0).bind fun bt312=>((shapesearchlaw10_made.f k bt312.1 bt312.2).bind fun bt315=>((segment_Encode.f k bt315.1).bind fun bt319=>((segment_Decode.f k bt319.1).bind fun bt323=>((segment_Summary.f k bt319.1).bind fun bt327=>(if bt319.2 = 0 then (if bt323.2 = 0 then (if bt327.2.2.2.2.2 = 0 then ((shapesearchkeep_Ints.f k bt315.1 bt323.1).bind fun t334=>(if t334 = true then (shapesearchlaw10_SegmentBack.j0 k l1 bt315.1 bt319.1 (decide ((bt319.1.length : Int) < 9)) bt327.1 bt327.2.1 bt327.2.2.1 bt327.2.2.2.1 bt327.2.2.2.2.1) else (shapesearchlaw10_SegmentBack.j0 k l1 bt315.1 bt319.1 true bt327.1 bt327.2.1 bt327.2.2.1 bt327.2.2.2.1 bt327.2.2.2.2.1))) else (shapesearchlaw10_SegmentBack.j0 k l1 bt315.1 bt319.1 true bt327.1 bt327.2.1 bt327.2.2.1 bt327.2.2.2.1 bt327.2.2.2.2.1)) else (shapesearchlaw10_SegmentBack.j0 k l1 bt315.1 bt319.1 true bt327.1 bt327.2.1 bt327.2.2.1 bt327.2.2.2.1 bt327.2.2.2.2.1)) else (shapesearchlaw10_SegmentBack.j0 k l1 bt315.1 bt319.1 true bt327.1 bt327.2.1 bt327.2.2.1 bt327.2.2.2.1 bt327.2.2.2.2.1)))))))
theorem shapesearchlaw10_SegmentBack.mono_l : ∀ k,(∀ y0 y1 y2 y3 y4 y5 y6 y7 y8,LeO (shapesearchlaw10_SegmentBack.j0 k y0 y1 y2 y3 y4 y5 y6 y7 y8) (shapesearchlaw10_SegmentBack.j0 (k + 1) y0 y1 y2 y3 y4 y5 y6 y7 y8))
 | 0=>fun _ _ _ _ _ _ _ _ _ r h=>by simp [shapesearchlaw10_SegmentBack.j0] at h
 | k + 1=>by
  have ih0:=shapesearchlaw10_SegmentBack.mono_l k
  ·
   intro y0 y1 y2 y3 y4 y5 y6 y7 y8
   unfold shapesearchlaw10_SegmentBack.j0
   repeat' first|(with_reducible first|apply ih0|apply segment_Decode.mono|apply segment_Encode.mono|apply segment_Summary.mono|apply shapesearchkeep_Ints.mono|apply shapesearchlaw10_awake.mono|apply shapesearchlaw10_made.mono|exact lz|refine LeO.ite ?_ ?_|refine LeO.bind ?_ fun _=>?_)
theorem shapesearchlaw10_SegmentBack.mono : ∀ a0 a1 k,LeO (shapesearchlaw10_SegmentBack.f k a0 a1) (shapesearchlaw10_SegmentBack.f (k + 1) a0 a1):=by
 intro a0 a1 k
 have ih0:=shapesearchlaw10_SegmentBack.mono_l k
 unfold shapesearchlaw10_SegmentBack.f
 repeat' first|(with_reducible first|apply ih0|apply segment_Decode.mono|apply segment_Encode.mono|apply segment_Summary.mono|apply shapesearchkeep_Ints.mono|apply shapesearchlaw10_awake.mono|apply shapesearchlaw10_made.mono|exact lz|refine LeO.ite ?_ ?_|refine LeO.bind ?_ fun _=>?_)
set_option maxHeartbeats 8000000 in
set_option maxRecDepth 100000 in
theorem shapesearchlaw10_SegmentBack.calls (k : Nat) (A0 : Option Addr) (c0 : Nat) (l0 : List Int) (A1 : Option Addr) (c1 : Nat) (l1 : List Int) (r : Bool) (w : World) (hr0 : Kd.C (Kd.int .i64) w A0 l0.length l0) (hc0 : l0.length ≤ c0) (hr1 : Kd.C (Kd.int .u8) w A1 l1.length l1) (hc1 : l1.length ≤ c1) (h : shapesearchlaw10_SegmentBack.f k l0 l1 = some r) (hT_ : r = true) :
  Calls Try.prog 5 #[.slice A0 l0.length c0,.slice A1 l1.length c1] w fun e w'=>e = .returned (.bool r)∧Below w.heap.size w w':=by
 have HTR_:=A_ hT_
 clear hT_
 have hu27:=Try.underlying27
 have HR0:=A_ hr0
 have HC0:=A_ hc0
 clear hr0 hc0
 have HR1:=A_ hr1
 have HC1:=A_ hc1
 clear hr1 hc1
 have HB:=A_ (Below.refl w.heap.size w)
 have H : (if (l1.length : Int) > 400 then ((shapesearchlaw10_awake.f k).bind fun t311=>(some t311)) else ((shapesearchkeep_New.f l0).bind fun bt312=>((shapesearchlaw10_made.f k bt312.1 bt312.2).bind fun bt315=>((segment_Encode.f k bt315.1).bind fun bt319=>((segment_Decode.f k bt319.1).bind fun bt323=>((segment_Summary.f k bt319.1).bind fun bt327=>(if bt319.2 = 0 then (if bt323.2 = 0 then (if bt327.2.2.2.2.2 = 0 then ((shapesearchkeep_Ints.f k bt315.1 bt323.1).bind fun t334=>(if t334 = true then (shapesearchlaw10_SegmentBack.j0 k l1 bt315.1 bt319.1 (decide ((bt319.1.length : Int) < 9)) bt327.1 bt327.2.1 bt327.2.2.1 bt327.2.2.2.1 bt327.2.2.2.2.1) else (shapesearchlaw10_SegmentBack.j0 k l1 bt315.1 bt319.1 true bt327.1 bt327.2.1 bt327.2.2.1 bt327.2.2.2.1 bt327.2.2.2.2.1))) else (shapesearchlaw10_SegmentBack.j0 k l1 bt315.1 bt319.1 true bt327.1 bt327.2.1 bt327.2.2.1 bt327.2.2.2.1 bt327.2.2.2.2.1)) else (shapesearchlaw10_SegmentBack.j0 k l1 bt315.1 bt319.1 true bt327.1 bt327.2.1 bt327.2.2.1 bt327.2.2.2.1 bt327.2.2.2.2.1)) else (shapesearchlaw10_SegmentBack.j0 k l1 bt315.1 bt319.1 true bt327.1 bt327.2.1 bt327.2.2.1 bt327.2.2.2.1 bt327.2.2.2.2.1)))))))) = some r:=h
 clear h
 by_cases c3 : (l1.length : Int) > 400
 ·
  rw [if_pos c3] at H
  have c3b0 : decide (400 < (l1.length : Int)) = true:=decide_eq_true c3
  have c3b1 : decide (400 < l1.length) = true:=decide_eq_true (by omega)
  clear c3
  replace H:=Option.bind_eq_some_iff.mp H
  obtain ⟨t311,A40,H⟩:=H
  replace H : (some t311) = some r:=H
  have A4:=A_ A40
  clear A40
  obtain rfl:=Option.some.inj H
  go_enter Try.func5,Try.ntmps5
  go_wp2_with (first|((with_reducible refine gate_callee (f:=16) rfl ?_);refine gl (some 20) Try.func16 #[] ?_;(with_reducible refine (shapesearchlaw10_awake.calls k  t311 _ A4.out).mono ?_);rintro e w5 ⟨rfl,hb⟩;refine ⟨_,rfl,?_⟩;replace HB:=A_ (below_step uq0 hb);(try clear hb);(try clear hb2);(try clear hk);(try clear hi)))
  go_ret
  exact ⟨by first|rfl|(simp [errW_none,errW_some] <;> rfl)|(simp [*,errW_none,errW_some] <;> rfl),uq0⟩
 ·
  rw [if_neg c3] at H
  have c3b0 : decide (400 < (l1.length : Int)) = false:=decide_eq_false c3
  have c3b1 : decide (400 < l1.length) = false:=decide_eq_false (by omega)
  clear c3
  replace H:=Option.bind_eq_some_iff.mp H
  obtain ⟨⟨t312,t313⟩,A60,H⟩:=H
  replace H : ((shapesearchlaw10_made.f k t312 t313).bind fun bt315=>((segment_Encode.f k bt315.1).bind fun bt319=>((segment_Decode.f k bt319.1).bind fun bt323=>((segment_Summary.f k bt319.1).bind fun bt327=>(if bt319.2 = 0 then (if bt323.2 = 0 then (if bt327.2.2.2.2.2 = 0 then ((shapesearchkeep_Ints.f k bt315.1 bt323.1).bind fun t334=>(if t334 = true then (shapesearchlaw10_SegmentBack.j0 k l1 bt315.1 bt319.1 (decide ((bt319.1.length : Int) < 9)) bt327.1 bt327.2.1 bt327.2.2.1 bt327.2.2.2.1 bt327.2.2.2.2.1) else (shapesearchlaw10_SegmentBack.j0 k l1 bt315.1 bt319.1 true bt327.1 bt327.2.1 bt327.2.2.1 bt327.2.2.2.1 bt327.2.2.2.2.1))) else (shapesearchlaw10_SegmentBack.j0 k l1 bt315.1 bt319.1 true bt327.1 bt327.2.1 bt327.2.2.1 bt327.2.2.2.1 bt327.2.2.2.2.1)) else (shapesearchlaw10_SegmentBack.j0 k l1 bt315.1 bt319.1 true bt327.1 bt327.2.1 bt327.2.2.1 bt327.2.2.2.1 bt327.2.2.2.2.1)) else (shapesearchlaw10_SegmentBack.j0 k l1 bt315.1 bt319.1 true bt327.1 bt327.2.1 bt327.2.2.1 bt327.2.2.2.1 bt327.2.2.2.2.1)))))) = some r:=H
  have A6:=A_ A60
  clear A60
  replace H:=Option.bind_eq_some_iff.mp H
  obtain ⟨⟨t315,t318⟩,A70,H⟩:=H
  replace H : ((segment_Encode.f k t315).bind fun bt319=>((segment_Decode.f k bt319.1).bind fun bt323=>((segment_Summary.f k bt319.1).bind fun bt327=>(if bt319.2 = 0 then (if bt323.2 = 0 then (if bt327.2.2.2.2.2 = 0 then ((shapesearchkeep_Ints.f k t315 bt323.1).bind fun t334=>(if t334 = true then (shapesearchlaw10_SegmentBack.j0 k l1 t315 bt319.1 (decide ((bt319.1.length : Int) < 9)) bt327.1 bt327.2.1 bt327.2.2.1 bt327.2.2.2.1 bt327.2.2.2.2.1) else (shapesearchlaw10_SegmentBack.j0 k l1 t315 bt319.1 true bt327.1 bt327.2.1 bt327.2.2.1 bt327.2.2.2.1 bt327.2.2.2.2.1))) else (shapesearchlaw10_SegmentBack.j0 k l1 t315 bt319.1 true bt327.1 bt327.2.1 bt327.2.2.1 bt327.2.2.2.1 bt327.2.2.2.2.1)) else (shapesearchlaw10_SegmentBack.j0 k l1 t315 bt319.1 true bt327.1 bt327.2.1 bt327.2.2.1 bt327.2.2.2.1 bt327.2.2.2.2.1)) else (shapesearchlaw10_SegmentBack.j0 k l1 t315 bt319.1 true bt327.1 bt327.2.1 bt327.2.2.1 bt327.2.2.2.1 bt327.2.2.2.2.1))))) = some r:=H
  have A7:=A_ A70
  clear A70
  replace H:=Option.bind_eq_some_iff.mp H
  obtain ⟨⟨t319,t320⟩,A80,H⟩:=H
  replace H : ((segment_Decode.f k t319).bind fun bt323=>((segment_Summary.f k t319).bind fun bt327=>(if t320 = 0 then (if bt323.2 = 0 then (if bt327.2.2.2.2.2 = 0 then ((shapesearchkeep_Ints.f k t315 bt323.1).bind fun t334=>(if t334 = true then (shapesearchlaw10_SegmentBack.j0 k l1 t315 t319 (decide ((t319.length : Int) < 9)) bt327.1 bt327.2.1 bt327.2.2.1 bt327.2.2.2.1 bt327.2.2.2.2.1) else (shapesearchlaw10_SegmentBack.j0 k l1 t315 t319 true bt327.1 bt327.2.1 bt327.2.2.1 bt327.2.2.2.1 bt327.2.2.2.2.1))) else (shapesearchlaw10_SegmentBack.j0 k l1 t315 t319 true bt327.1 bt327.2.1 bt327.2.2.1 bt327.2.2.2.1 bt327.2.2.2.2.1)) else (shapesearchlaw10_SegmentBack.j0 k l1 t315 t319 true bt327.1 bt327.2.1 bt327.2.2.1 bt327.2.2.2.1 bt327.2.2.2.2.1)) else (shapesearchlaw10_SegmentBack.j0 k l1 t315 t319 true bt327.1 bt327.2.1 bt327.2.2.1 bt327.2.2.2.1 bt327.2.2.2.2.1)))) = some r:=H
  have A8:=A_ A80
  clear A80
  replace H:=Option.bind_eq_some_iff.mp H
  obtain ⟨⟨t323,t324⟩,A90,H⟩:=H
  replace H : ((segment_Summary.f k t319).bind fun bt327=>(if t320 = 0 then (if t324 = 0 then (if bt327.2.2.2.2.2 = 0 then ((shapesearchkeep_Ints.f k t315 t323).bind fun t334=>(if t334 = true then (shapesearchlaw10_SegmentBack.j0 k l1 t315 t319 (decide ((t319.length : Int) < 9)) bt327.1 bt327.2.1 bt327.2.2.1 bt327.2.2.2.1 bt327.2.2.2.2.1) else (shapesearchlaw10_SegmentBack.j0 k l1 t315 t319 true bt327.1 bt327.2.1 bt327.2.2.1 bt327.2.2.2.1 bt327.2.2.2.2.1))) else (shapesearchlaw10_SegmentBack.j0 k l1 t315 t319 true bt327.1 bt327.2.1 bt327.2.2.1 bt327.2.2.2.1 bt327.2.2.2.2.1)) else (shapesearchlaw10_SegmentBack.j0 k l1 t315 t319 true bt327.1 bt327.2.1 bt327.2.2.1 bt327.2.2.2.1 bt327.2.2.2.2.1)) else (shapesearchlaw10_SegmentBack.j0 k l1 t315 t319 true bt327.1 bt327.2.1 bt327.2.2.1 bt327.2.2.2.1 bt327.2.2.2.2.1))) = some r:=H
  have A9:=A_ A90
  clear A90
  replace H:=Option.bind_eq_some_iff.mp H
  obtain ⟨⟨t327,t328,t329,t330,t331,t332⟩,A100,H⟩:=H
  replace H : (if t320 = 0 then (if t324 = 0 then (if t332 = 0 then ((shapesearchkeep_Ints.f k t315 t323).bind fun t334=>(if t334 = true then (shapesearchlaw10_SegmentBack.j0 k l1 t315 t319 (decide ((t319.length : Int) < 9)) t327 t328 t329 t330 t331) else (shapesearchlaw10_SegmentBack.j0 k l1 t315 t319 true t327 t328 t329 t330 t331))) else (shapesearchlaw10_SegmentBack.j0 k l1 t315 t319 true t327 t328 t329 t330 t331)) else (shapesearchlaw10_SegmentBack.j0 k l1 t315 t319 true t327 t328 t329 t330 t331)) else (shapesearchlaw10_SegmentBack.j0 k l1 t315 t319 true t327 t328 t329 t330 t331)) = some r:=H
  have A10:=A_ A100
  clear A100
  have HC11:=A_ H
  clear H
  go_enter Try.func5,Try.ntmps5
  go_upto_region 7 with (first|((with_reducible refine gate_callee (f:=11) rfl ?_);refine gl (some 22) Try.func11 #[.slice A0 l0.length c0] ?_;(with_reducible refine (shapesearchkeep_New.calls _ _ l0 t312 t313 w _ ?side1 ?side2 ?side3 A6.out).mono ?_);(case side1=>exact uq0);(case side2=>exact HR0.out);(case side3=>exact HC0.out);rintro e w12 ⟨g314,rfl,hi,hb,hb2⟩;refine ⟨_,rfl,?_⟩;replace HB:=A_ (hb);have HI314:=A_ (hi);(try clear hb);(try clear hb2);(try clear hk);(try clear hi))|((with_reducible refine gate_callee (f:=10) rfl ?_);refine gl (some 23) Try.func10 #[.pointer (some ⟨g314,0,none⟩)] ?_;(with_reducible refine (shapesearchlaw10_made.calls k g314 t312 t313 t315 t318 w _ ?side1 ?side2 A7.out).mono ?_);(case side1=>exact uq24);(case side2=>exact uq18);rintro e w13 ⟨v316,rfl,ho0,hi,hb,hk⟩;refine ⟨_,rfl,?_⟩;have HO317:=A_ (Kd.R_lower ho0 (below_size uq18));replace HB:=A_ (hb);replace HI314:=A_ (hi);(try clear hb);(try clear hb2);(try clear hk);(try clear hi);(try clear ho0);obtain ⟨Ao14,co14,eo14⟩:=Kd.R_slice HO317.out;subst eo14)|((with_reducible refine gate_callee (f:=13) rfl ?_);refine gl (some 26) Try.func13 #[.slice Ao14 t315.length co14] ?_;(with_reducible refine (segment_Encode.calls k _ _ t315 t319 t320 _ ?side1 ?side2 A8.out).mono ?_);(case side1=>exact cx ((rd_ HO317.out).2.2));(case side2=>exact (rd_ HO317.out).2.1);rintro e w15 ⟨v321,rfl,ho0,hb⟩;refine ⟨_,rfl,?_⟩;replace HO317:=A_ (rw_ (rx HO317.out) hb);have HO322:=A_ (Kd.R_lower ho0 (below_size uq18));replace HI314:=A_ (IsS76.below uq24 hb);replace HB:=A_ (below_step uq18 hb);(try clear hb);(try clear hb2);(try clear hk);(try clear hi);(try clear ho0);obtain ⟨Ao16,co16,eo16⟩:=Kd.R_slice HO322.out;subst eo16)|((with_reducible refine gate_callee (f:=21) rfl ?_);refine gl (some 31) Try.func21 #[.slice Ao16 t319.length co16] ?_;(with_reducible refine (segment_Decode.calls k _ _ t319 t323 t324 _ ?side1 ?side2 A9.out).mono ?_);(case side1=>exact cx ((rd_ HO322.out).2.2));(case side2=>exact (rd_ HO322.out).2.1);rintro e w17 ⟨v325,rfl,ho0,hb⟩;refine ⟨_,rfl,?_⟩;have n0_:=A_ (re (rx HO317.out) (rs ho0) hb);have n1_:=A_ (rw_ (rx HO322.out) hb);have n2_:=A_ (Kd.R_lower (rn ho0 (rl (rx HO317.out))) (below_size uq18));have n3_:=A_ (IsS76.below uq24 hb);have n4_:=A_ (below_step uq18 hb);clear HO317;clear HO322;clear HI314;clear HB;have HO317:=n0_;have HO322:=n1_;have HO326:=n2_;have HI314:=n3_;have HB:=n4_;clear n0_ n1_ n2_ n3_ n4_;(try clear hb);(try clear hb2);(try clear hk);(try clear hi);(try clear ho0))|((with_reducible refine gate_callee (f:=23) rfl ?_);refine gl (some 36) Try.func23 #[.slice Ao16 t319.length co16] ?_;(with_reducible refine (segment_Summary.calls k _ _ t319 t327 t328 t329 t330 t331 t332 _ ?side1 ?side2 A10.out).mono ?_);(case side1=>exact cx ((rd_ HO322.out).2.2));(case side2=>exact (rd_ HO322.out).2.1);rintro e w18 ⟨rfl,hb⟩;refine ⟨_,rfl,?_⟩;replace HO317:=A_ (rw_ (rx HO317.out) hb);replace HO322:=A_ (rw_ (rx HO322.out) hb);replace HO326:=A_ (rw_ (rx HO326.out) hb);replace HI314:=A_ (IsS76.below uq24 hb);replace HB:=A_ (below_step uq18 hb);(try clear hb);(try clear hb2);(try clear hk);(try clear hi))|((with_reducible refine gate_dst (N:=10) rfl ?_);(try (refine gate_guard (by rfl) ?_;dsimp only));refine box_event ?hg (N:=10) ?hd (cs:=#[.int .i64 0,.int .i64 0,.int .i64 0,.int .i64 0,.int .i64 0]) (t:=27) ?hr ?_;(case hd=>rfl);(case hg=>rfl);(case hr=>first|(go_simp;done)|(go_simp;rfl));intro gb333 hg w19 hbox hb;have n0_:=A_ (rw_ (rx HO317.out) hb);have n1_:=A_ (rw_ (rx HO322.out) hb);have n2_:=A_ (rw_ (rx HO326.out) hb);have n3_:=A_ (IsS76.below uq24 hb);have n4_:=A_ (below_step uq18 hb);have n5_:=A_ (hbox);have n6_:=A_ ((by rw [hg];exact (below_size uq18) : w.heap.size ≤ gb333));have n7_:=A_ ((by rw [hg];exact (below_size uq18) : w.heap.size ≤ gb333));have n8_:=A_ ((by rw [hg];exact Nat.ne_of_lt (IsS76.lt (show IsS76 w _ g314 t312 t318 from uq24)) : g314≠gb333));have n9_:=A_ ((by rw [hg];exact Nat.ne_of_gt (IsS76.lt (show IsS76 w _ g314 t312 t318 from uq24)) : gb333≠g314));clear HO317;clear HO322;clear HO326;clear HI314;clear HB;have HO317:=n0_;have HO322:=n1_;have HO326:=n2_;have HI314:=n3_;have HB:=n4_;have BK333:=n5_;have GW333:=n6_;have GE333:=n7_;have NB314_333:=n8_;have NB333_314:=n9_;clear n0_ n1_ n2_ n3_ n4_ n5_ n6_ n7_ n8_ n9_;clear hb hbox hg;have hnb20:=NB333_314.out;have hnc20:=NB314_333.out;have hcz21_0 : w19.cell? ⟨gb333,0,none⟩ = some (.int .i64 0):=(blk_cell BK333.out 0).trans rfl;have hcz21_1 : w19.cell? ⟨gb333,1,none⟩ = some (.int .i64 0):=(blk_cell BK333.out 1).trans rfl;have hcz21_2 : w19.cell? ⟨gb333,2,none⟩ = some (.int .i64 0):=(blk_cell BK333.out 2).trans rfl;have hcz21_3 : w19.cell? ⟨gb333,3,none⟩ = some (.int .i64 0):=(blk_cell BK333.out 3).trans rfl;have hcz21_4 : w19.cell? ⟨gb333,4,none⟩ = some (.int .i64 0):=(blk_cell BK333.out 4).trans rfl;have hfz21_0:=blk_frozen BK333.out 0;have hfz21_1:=blk_frozen BK333.out 1;have hfz21_2:=blk_frozen BK333.out 2;have hfz21_3:=blk_frozen BK333.out 3;have hfz21_4:=blk_frozen BK333.out 4))
  (try simp only [Act.put,List.setIfInBounds_toArray,List.set_cons_zero,List.set_cons_succ])
  go_cut [59] (fun v59 wc=>∃ (kq : Nat) (x59_10 : Bool),v59 = .bool x59_10∧Aside0 (shapesearchlaw10_SegmentBack.j0 kq l1 t315 t319 x59_10 t327 t328 t329 t330 t331 = some r)∧Aside0 (kq ≤ k)∧Aside0 (Kd.R (Kd.int .i64) 3 wc w.heap.size (fun _=>True) (.slice Ao14 t315.length co14) t315)∧Aside0 (Kd.R (Kd.int .u8) 5 wc w.heap.size (fun _=>True) (.slice Ao16 t319.length co16) t319)∧Aside0 (wc.heap[gb333]? = some (.cells #[.int .i64 t327,.int .i64 t328,.int .i64 t329,.int .i64 t330,.int .i64 t331] 27 (0,0)))∧Aside0 (Below w.heap.size w wc))
  case first =>
   have H:=HC11.out
   clear HC11
   by_cases c22 : t320 = 0
   ·
    rw [if_pos c22] at H
    have c22b0 : (t320 == 0) = true:=beq_iff_eq.mpr c22
    have c22b1 : (t320 != 0) = false:=bne_eq_false_iff_eq.mpr c22
    clear c22
    (first|rw [c22b0]|(simp only [i64_w,i32_w];rw [c22b0])|skip)
    by_cases c23 : t324 = 0
    ·
     rw [if_pos c23] at H
     have c23b0 : (t324 == 0) = true:=beq_iff_eq.mpr c23
     have c23b1 : (t324 != 0) = false:=bne_eq_false_iff_eq.mpr c23
     clear c23
     by_cases c24 : t332 = 0
     ·
      rw [if_pos c24] at H
      have c24b0 : (t332 == 0) = true:=beq_iff_eq.mpr c24
      have c24b1 : (t332 != 0) = false:=bne_eq_false_iff_eq.mpr c24
      clear c24
      replace H:=Option.bind_eq_some_iff.mp H
      obtain ⟨t334,A250,H⟩:=H
      replace H : (if t334 = true then (shapesearchlaw10_SegmentBack.j0 k l1 t315 t319 (decide ((t319.length : Int) < 9)) t327 t328 t329 t330 t331) else (shapesearchlaw10_SegmentBack.j0 k l1 t315 t319 true t327 t328 t329 t330 t331)) = some r:=H
      have A25:=A_ A250
      clear A250
      by_cases c26 : t334 = true
      ·
       subst c26
       have H1 : (shapesearchlaw10_SegmentBack.j0 k l1 t315 t319 (decide ((t319.length : Int) < 9)) t327 t328 t329 t330 t331) = some r:=by rw [if_pos rfl] at H;exact H
       clear H
       have H:=H1
       clear H1
       have H':=A_ H
       clear H
       obtain ⟨Ao27,co27,eo27⟩:=Kd.R_slice HO326.out
       subst eo27
       go_wp2_with (first|(go_at_call 25;(with_reducible refine (shapesearchkeep_Ints.calls k _ _ t315 _ _ t323 true _ ?side1 ?side2 ?side3 ?side4 A25.out).mono ?_);(case side1=>refine (rd_ (e:=3) (base:=w.heap.size) (ok:=fun k_=>(True∧nb k_ (.slice Ao27 t323.length co27))) (n:=t315.length) (c:=co14) ?_).2.2;exact (by (with_reducible repeat (first|apply ra|apply rb|apply rc));exact (rm (Kd.R_far (p:=⟨gb333,4,none⟩) (Kd.R_far (p:=⟨gb333,3,none⟩) (Kd.R_far (p:=⟨gb333,2,none⟩) (Kd.R_far (p:=⟨gb333,1,none⟩) (Kd.R_far (p:=⟨gb333,0,none⟩) (Kd.R_types HO317.out BK333.out (by decide)) (fun _ hk=>hk.2) (.int .i64 t327)) (fun _ hk=>hk.2) (.int .i64 t328)) (fun _ hk=>hk.2) (.int .i64 t329)) (fun _ hk=>hk.2) (.int .i64 t330)) (fun _ hk=>hk.2) (.int .i64 t331)) (fun _ h_=>h_.1))));(case side2=>exact (rd_ HO317.out).2.1);(case side3=>refine (rd_ (e:=3) (base:=w.heap.size) (ok:=fun k_=>(True∧nb k_ (.slice Ao14 t315.length co14))) (n:=t323.length) (c:=co27) ?_).2.2;exact (by (with_reducible repeat (first|apply ra|apply rb|apply rc));exact (rm (Kd.R_far (p:=⟨gb333,4,none⟩) (Kd.R_far (p:=⟨gb333,3,none⟩) (Kd.R_far (p:=⟨gb333,2,none⟩) (Kd.R_far (p:=⟨gb333,1,none⟩) (Kd.R_far (p:=⟨gb333,0,none⟩) (Kd.R_types HO326.out BK333.out (by decide)) (fun _ hk=>hk.2) (.int .i64 t327)) (fun _ hk=>hk.2) (.int .i64 t328)) (fun _ hk=>hk.2) (.int .i64 t329)) (fun _ hk=>hk.2) (.int .i64 t330)) (fun _ hk=>hk.2) (.int .i64 t331)) (fun _ h_=>h_.1))));(case side4=>exact (rd_ HO326.out).2.1);rintro e w' ⟨rfl,⟨nd,rfl⟩⟩))
       go_meet
       case rel=>exact ⟨_,(decide ((t319.length : Int) < 9)),uq2,H',⟨by first|omega|exact Nat.le_refl _⟩,⟨by (with_reducible repeat (first|apply ra|apply rb|apply rc));exact rm (Kd.R_far (p:=⟨gb333,4,none⟩) (Kd.R_far (p:=⟨gb333,3,none⟩) (Kd.R_far (p:=⟨gb333,2,none⟩) (Kd.R_far (p:=⟨gb333,1,none⟩) (Kd.R_far (p:=⟨gb333,0,none⟩) (Kd.R_types HO317.out BK333.out (by decide)) (fun _ hk=>hk.2) (.int .i64 t327)) (fun _ hk=>hk.2) (.int .i64 t328)) (fun _ hk=>hk.2) (.int .i64 t329)) (fun _ hk=>hk.2) (.int .i64 t330)) (fun _ hk=>hk.2) (.int .i64 t331)) (fun _ hk=>trivial)⟩,⟨by (with_reducible repeat (first|apply ra|apply rb|apply rc));exact rm (Kd.R_far (p:=⟨gb333,4,none⟩) (Kd.R_far (p:=⟨gb333,3,none⟩) (Kd.R_far (p:=⟨gb333,2,none⟩) (Kd.R_far (p:=⟨gb333,1,none⟩) (Kd.R_far (p:=⟨gb333,0,none⟩) (Kd.R_types HO322.out BK333.out (by decide)) (fun _ hk=>hk.2) (.int .i64 t327)) (fun _ hk=>hk.2) (.int .i64 t328)) (fun _ hk=>hk.2) (.int .i64 t329)) (fun _ hk=>hk.2) (.int .i64 t330)) (fun _ hk=>hk.2) (.int .i64 t331)) (fun _ hk=>trivial)⟩,⟨by (with_reducible repeat (first|refine blk_drewN ?_ _|refine blk_drew ?_|refine blk_alloc ?_ _));refine blk_put (cs:=#[.int .i64 t327,.int .i64 t328,.int .i64 t329,.int .i64 t330,.int .i64 0]) ?_ 4 _ rfl;(with_reducible repeat (first|refine blk_drewN ?_ _|refine blk_drew ?_|refine blk_alloc ?_ _));refine blk_put (cs:=#[.int .i64 t327,.int .i64 t328,.int .i64 t329,.int .i64 0,.int .i64 0]) ?_ 3 _ rfl;(with_reducible repeat (first|refine blk_drewN ?_ _|refine blk_drew ?_|refine blk_alloc ?_ _));refine blk_put (cs:=#[.int .i64 t327,.int .i64 t328,.int .i64 0,.int .i64 0,.int .i64 0]) ?_ 2 _ rfl;(with_reducible repeat (first|refine blk_drewN ?_ _|refine blk_drew ?_|refine blk_alloc ?_ _));refine blk_put (cs:=#[.int .i64 t327,.int .i64 0,.int .i64 0,.int .i64 0,.int .i64 0]) ?_ 1 _ rfl;(with_reducible repeat (first|refine blk_drewN ?_ _|refine blk_drew ?_|refine blk_alloc ?_ _));refine blk_put (cs:=#[.int .i64 0,.int .i64 0,.int .i64 0,.int .i64 0,.int .i64 0]) ?_ 0 _ rfl;(with_reducible repeat (first|refine blk_drewN ?_ _|refine blk_drew ?_|refine blk_alloc ?_ _));exact BK333.out⟩,⟨uq32⟩⟩
      ·
       replace c26:=Bool.eq_false_iff.mpr c26
       subst c26
       have H1 : (shapesearchlaw10_SegmentBack.j0 k l1 t315 t319 true t327 t328 t329 t330 t331) = some r:=by rw [if_neg (show ¬ (false = true) by decide)] at H;exact H
       clear H
       have H:=H1
       clear H1
       have H':=A_ H
       clear H
       obtain ⟨Ao28,co28,eo28⟩:=Kd.R_slice HO326.out
       subst eo28
       go_wp2_with (first|(go_at_call 25;(with_reducible refine (shapesearchkeep_Ints.calls k _ _ t315 _ _ t323 false _ ?side1 ?side2 ?side3 ?side4 A25.out).mono ?_);(case side1=>refine (rd_ (e:=3) (base:=w.heap.size) (ok:=fun k_=>(True∧nb k_ (.slice Ao28 t323.length co28))) (n:=t315.length) (c:=co14) ?_).2.2;exact (by (with_reducible repeat (first|apply ra|apply rb|apply rc));exact (rm (Kd.R_far (p:=⟨gb333,4,none⟩) (Kd.R_far (p:=⟨gb333,3,none⟩) (Kd.R_far (p:=⟨gb333,2,none⟩) (Kd.R_far (p:=⟨gb333,1,none⟩) (Kd.R_far (p:=⟨gb333,0,none⟩) (Kd.R_types HO317.out BK333.out (by decide)) (fun _ hk=>hk.2) (.int .i64 t327)) (fun _ hk=>hk.2) (.int .i64 t328)) (fun _ hk=>hk.2) (.int .i64 t329)) (fun _ hk=>hk.2) (.int .i64 t330)) (fun _ hk=>hk.2) (.int .i64 t331)) (fun _ h_=>h_.1))));(case side2=>exact (rd_ HO317.out).2.1);(case side3=>refine (rd_ (e:=3) (base:=w.heap.size) (ok:=fun k_=>(True∧nb k_ (.slice Ao14 t315.length co14))) (n:=t323.length) (c:=co28) ?_).2.2;exact (by (with_reducible repeat (first|apply ra|apply rb|apply rc));exact (rm (Kd.R_far (p:=⟨gb333,4,none⟩) (Kd.R_far (p:=⟨gb333,3,none⟩) (Kd.R_far (p:=⟨gb333,2,none⟩) (Kd.R_far (p:=⟨gb333,1,none⟩) (Kd.R_far (p:=⟨gb333,0,none⟩) (Kd.R_types HO326.out BK333.out (by decide)) (fun _ hk=>hk.2) (.int .i64 t327)) (fun _ hk=>hk.2) (.int .i64 t328)) (fun _ hk=>hk.2) (.int .i64 t329)) (fun _ hk=>hk.2) (.int .i64 t330)) (fun _ hk=>hk.2) (.int .i64 t331)) (fun _ h_=>h_.1))));(case side4=>exact (rd_ HO326.out).2.1);rintro e w' ⟨rfl,⟨nd,rfl⟩⟩))
       go_meet
       case rel=>exact ⟨_,(true),uq2,H',⟨by first|omega|exact Nat.le_refl _⟩,⟨by (with_reducible repeat (first|apply ra|apply rb|apply rc));exact rm (Kd.R_far (p:=⟨gb333,4,none⟩) (Kd.R_far (p:=⟨gb333,3,none⟩) (Kd.R_far (p:=⟨gb333,2,none⟩) (Kd.R_far (p:=⟨gb333,1,none⟩) (Kd.R_far (p:=⟨gb333,0,none⟩) (Kd.R_types HO317.out BK333.out (by decide)) (fun _ hk=>hk.2) (.int .i64 t327)) (fun _ hk=>hk.2) (.int .i64 t328)) (fun _ hk=>hk.2) (.int .i64 t329)) (fun _ hk=>hk.2) (.int .i64 t330)) (fun _ hk=>hk.2) (.int .i64 t331)) (fun _ hk=>trivial)⟩,⟨by (with_reducible repeat (first|apply ra|apply rb|apply rc));exact rm (Kd.R_far (p:=⟨gb333,4,none⟩) (Kd.R_far (p:=⟨gb333,3,none⟩) (Kd.R_far (p:=⟨gb333,2,none⟩) (Kd.R_far (p:=⟨gb333,1,none⟩) (Kd.R_far (p:=⟨gb333,0,none⟩) (Kd.R_types HO322.out BK333.out (by decide)) (fun _ hk=>hk.2) (.int .i64 t327)) (fun _ hk=>hk.2) (.int .i64 t328)) (fun _ hk=>hk.2) (.int .i64 t329)) (fun _ hk=>hk.2) (.int .i64 t330)) (fun _ hk=>hk.2) (.int .i64 t331)) (fun _ hk=>trivial)⟩,⟨by (with_reducible repeat (first|refine blk_drewN ?_ _|refine blk_drew ?_|refine blk_alloc ?_ _));refine blk_put (cs:=#[.int .i64 t327,.int .i64 t328,.int .i64 t329,.int .i64 t330,.int .i64 0]) ?_ 4 _ rfl;(with_reducible repeat (first|refine blk_drewN ?_ _|refine blk_drew ?_|refine blk_alloc ?_ _));refine blk_put (cs:=#[.int .i64 t327,.int .i64 t328,.int .i64 t329,.int .i64 0,.int .i64 0]) ?_ 3 _ rfl;(with_reducible repeat (first|refine blk_drewN ?_ _|refine blk_drew ?_|refine blk_alloc ?_ _));refine blk_put (cs:=#[.int .i64 t327,.int .i64 t328,.int .i64 0,.int .i64 0,.int .i64 0]) ?_ 2 _ rfl;(with_reducible repeat (first|refine blk_drewN ?_ _|refine blk_drew ?_|refine blk_alloc ?_ _));refine blk_put (cs:=#[.int .i64 t327,.int .i64 0,.int .i64 0,.int .i64 0,.int .i64 0]) ?_ 1 _ rfl;(with_reducible repeat (first|refine blk_drewN ?_ _|refine blk_drew ?_|refine blk_alloc ?_ _));refine blk_put (cs:=#[.int .i64 0,.int .i64 0,.int .i64 0,.int .i64 0,.int .i64 0]) ?_ 0 _ rfl;(with_reducible repeat (first|refine blk_drewN ?_ _|refine blk_drew ?_|refine blk_alloc ?_ _));exact BK333.out⟩,⟨uq32⟩⟩
     ·
      rw [if_neg c24] at H
      have c24b0 : (t332 == 0) = false:=beq_eq_false_iff_ne.mpr c24
      have c24b1 : (t332 != 0) = true:=bne_iff_ne.mpr c24
      have H':=A_ H
      clear H
      go_wp2
      go_meet
      case rel=>exact ⟨_,(true),uq2,H',⟨by first|omega|exact Nat.le_refl _⟩,⟨by (with_reducible repeat (first|apply ra|apply rb|apply rc));exact rm (Kd.R_far (p:=⟨gb333,4,none⟩) (Kd.R_far (p:=⟨gb333,3,none⟩) (Kd.R_far (p:=⟨gb333,2,none⟩) (Kd.R_far (p:=⟨gb333,1,none⟩) (Kd.R_far (p:=⟨gb333,0,none⟩) (Kd.R_types HO317.out BK333.out (by decide)) (fun _ hk=>hk.2) (.int .i64 t327)) (fun _ hk=>hk.2) (.int .i64 t328)) (fun _ hk=>hk.2) (.int .i64 t329)) (fun _ hk=>hk.2) (.int .i64 t330)) (fun _ hk=>hk.2) (.int .i64 t331)) (fun _ hk=>trivial)⟩,⟨by (with_reducible repeat (first|apply ra|apply rb|apply rc));exact rm (Kd.R_far (p:=⟨gb333,4,none⟩) (Kd.R_far (p:=⟨gb333,3,none⟩) (Kd.R_far (p:=⟨gb333,2,none⟩) (Kd.R_far (p:=⟨gb333,1,none⟩) (Kd.R_far (p:=⟨gb333,0,none⟩) (Kd.R_types HO322.out BK333.out (by decide)) (fun _ hk=>hk.2) (.int .i64 t327)) (fun _ hk=>hk.2) (.int .i64 t328)) (fun _ hk=>hk.2) (.int .i64 t329)) (fun _ hk=>hk.2) (.int .i64 t330)) (fun _ hk=>hk.2) (.int .i64 t331)) (fun _ hk=>trivial)⟩,⟨by (with_reducible repeat (first|refine blk_drewN ?_ _|refine blk_drew ?_|refine blk_alloc ?_ _));refine blk_put (cs:=#[.int .i64 t327,.int .i64 t328,.int .i64 t329,.int .i64 t330,.int .i64 0]) ?_ 4 _ rfl;(with_reducible repeat (first|refine blk_drewN ?_ _|refine blk_drew ?_|refine blk_alloc ?_ _));refine blk_put (cs:=#[.int .i64 t327,.int .i64 t328,.int .i64 t329,.int .i64 0,.int .i64 0]) ?_ 3 _ rfl;(with_reducible repeat (first|refine blk_drewN ?_ _|refine blk_drew ?_|refine blk_alloc ?_ _));refine blk_put (cs:=#[.int .i64 t327,.int .i64 t328,.int .i64 0,.int .i64 0,.int .i64 0]) ?_ 2 _ rfl;(with_reducible repeat (first|refine blk_drewN ?_ _|refine blk_drew ?_|refine blk_alloc ?_ _));refine blk_put (cs:=#[.int .i64 t327,.int .i64 0,.int .i64 0,.int .i64 0,.int .i64 0]) ?_ 1 _ rfl;(with_reducible repeat (first|refine blk_drewN ?_ _|refine blk_drew ?_|refine blk_alloc ?_ _));refine blk_put (cs:=#[.int .i64 0,.int .i64 0,.int .i64 0,.int .i64 0,.int .i64 0]) ?_ 0 _ rfl;(with_reducible repeat (first|refine blk_drewN ?_ _|refine blk_drew ?_|refine blk_alloc ?_ _));exact BK333.out⟩,⟨uq32⟩⟩
    ·
     rw [if_neg c23] at H
     have c23b0 : (t324 == 0) = false:=beq_eq_false_iff_ne.mpr c23
     have c23b1 : (t324 != 0) = true:=bne_iff_ne.mpr c23
     have H':=A_ H
     clear H
     go_wp2
     go_meet
     case rel=>exact ⟨_,(true),uq2,H',⟨by first|omega|exact Nat.le_refl _⟩,⟨by (with_reducible repeat (first|apply ra|apply rb|apply rc));exact rm (Kd.R_far (p:=⟨gb333,4,none⟩) (Kd.R_far (p:=⟨gb333,3,none⟩) (Kd.R_far (p:=⟨gb333,2,none⟩) (Kd.R_far (p:=⟨gb333,1,none⟩) (Kd.R_far (p:=⟨gb333,0,none⟩) (Kd.R_types HO317.out BK333.out (by decide)) (fun _ hk=>hk.2) (.int .i64 t327)) (fun _ hk=>hk.2) (.int .i64 t328)) (fun _ hk=>hk.2) (.int .i64 t329)) (fun _ hk=>hk.2) (.int .i64 t330)) (fun _ hk=>hk.2) (.int .i64 t331)) (fun _ hk=>trivial)⟩,⟨by (with_reducible repeat (first|apply ra|apply rb|apply rc));exact rm (Kd.R_far (p:=⟨gb333,4,none⟩) (Kd.R_far (p:=⟨gb333,3,none⟩) (Kd.R_far (p:=⟨gb333,2,none⟩) (Kd.R_far (p:=⟨gb333,1,none⟩) (Kd.R_far (p:=⟨gb333,0,none⟩) (Kd.R_types HO322.out BK333.out (by decide)) (fun _ hk=>hk.2) (.int .i64 t327)) (fun _ hk=>hk.2) (.int .i64 t328)) (fun _ hk=>hk.2) (.int .i64 t329)) (fun _ hk=>hk.2) (.int .i64 t330)) (fun _ hk=>hk.2) (.int .i64 t331)) (fun _ hk=>trivial)⟩,⟨by (with_reducible repeat (first|refine blk_drewN ?_ _|refine blk_drew ?_|refine blk_alloc ?_ _));refine blk_put (cs:=#[.int .i64 t327,.int .i64 t328,.int .i64 t329,.int .i64 t330,.int .i64 0]) ?_ 4 _ rfl;(with_reducible repeat (first|refine blk_drewN ?_ _|refine blk_drew ?_|refine blk_alloc ?_ _));refine blk_put (cs:=#[.int .i64 t327,.int .i64 t328,.int .i64 t329,.int .i64 0,.int .i64 0]) ?_ 3 _ rfl;(with_reducible repeat (first|refine blk_drewN ?_ _|refine blk_drew ?_|refine blk_alloc ?_ _));refine blk_put (cs:=#[.int .i64 t327,.int .i64 t328,.int .i64 0,.int .i64 0,.int .i64 0]) ?_ 2 _ rfl;(with_reducible repeat (first|refine blk_drewN ?_ _|refine blk_drew ?_|refine blk_alloc ?_ _));refine blk_put (cs:=#[.int .i64 t327,.int .i64 0,.int .i64 0,.int .i64 0,.int .i64 0]) ?_ 1 _ rfl;(with_reducible repeat (first|refine blk_drewN ?_ _|refine blk_drew ?_|refine blk_alloc ?_ _));refine blk_put (cs:=#[.int .i64 0,.int .i64 0,.int .i64 0,.int .i64 0,.int .i64 0]) ?_ 0 _ rfl;(with_reducible repeat (first|refine blk_drewN ?_ _|refine blk_drew ?_|refine blk_alloc ?_ _));exact BK333.out⟩,⟨uq32⟩⟩
   ·
    rw [if_neg c22] at H
    have c22b0 : (t320 == 0) = false:=beq_eq_false_iff_ne.mpr c22
    have c22b1 : (t320 != 0) = true:=bne_iff_ne.mpr c22
    (first|rw [c22b0]|(simp only [i64_w,i32_w];rw [c22b0])|skip)
    have H':=A_ H
    clear H
    go_wp2
    go_meet
    case rel=>exact ⟨_,(true),uq2,H',⟨by first|omega|exact Nat.le_refl _⟩,⟨by (with_reducible repeat (first|apply ra|apply rb|apply rc));exact rm (Kd.R_far (p:=⟨gb333,4,none⟩) (Kd.R_far (p:=⟨gb333,3,none⟩) (Kd.R_far (p:=⟨gb333,2,none⟩) (Kd.R_far (p:=⟨gb333,1,none⟩) (Kd.R_far (p:=⟨gb333,0,none⟩) (Kd.R_types HO317.out BK333.out (by decide)) (fun _ hk=>hk.2) (.int .i64 t327)) (fun _ hk=>hk.2) (.int .i64 t328)) (fun _ hk=>hk.2) (.int .i64 t329)) (fun _ hk=>hk.2) (.int .i64 t330)) (fun _ hk=>hk.2) (.int .i64 t331)) (fun _ hk=>trivial)⟩,⟨by (with_reducible repeat (first|apply ra|apply rb|apply rc));exact rm (Kd.R_far (p:=⟨gb333,4,none⟩) (Kd.R_far (p:=⟨gb333,3,none⟩) (Kd.R_far (p:=⟨gb333,2,none⟩) (Kd.R_far (p:=⟨gb333,1,none⟩) (Kd.R_far (p:=⟨gb333,0,none⟩) (Kd.R_types HO322.out BK333.out (by decide)) (fun _ hk=>hk.2) (.int .i64 t327)) (fun _ hk=>hk.2) (.int .i64 t328)) (fun _ hk=>hk.2) (.int .i64 t329)) (fun _ hk=>hk.2) (.int .i64 t330)) (fun _ hk=>hk.2) (.int .i64 t331)) (fun _ hk=>trivial)⟩,⟨by (with_reducible repeat (first|refine blk_drewN ?_ _|refine blk_drew ?_|refine blk_alloc ?_ _));refine blk_put (cs:=#[.int .i64 t327,.int .i64 t328,.int .i64 t329,.int .i64 t330,.int .i64 0]) ?_ 4 _ rfl;(with_reducible repeat (first|refine blk_drewN ?_ _|refine blk_drew ?_|refine blk_alloc ?_ _));refine blk_put (cs:=#[.int .i64 t327,.int .i64 t328,.int .i64 t329,.int .i64 0,.int .i64 0]) ?_ 3 _ rfl;(with_reducible repeat (first|refine blk_drewN ?_ _|refine blk_drew ?_|refine blk_alloc ?_ _));refine blk_put (cs:=#[.int .i64 t327,.int .i64 t328,.int .i64 0,.int .i64 0,.int .i64 0]) ?_ 2 _ rfl;(with_reducible repeat (first|refine blk_drewN ?_ _|refine blk_drew ?_|refine blk_alloc ?_ _));refine blk_put (cs:=#[.int .i64 t327,.int .i64 0,.int .i64 0,.int .i64 0,.int .i64 0]) ?_ 1 _ rfl;(with_reducible repeat (first|refine blk_drewN ?_ _|refine blk_drew ?_|refine blk_alloc ?_ _));refine blk_put (cs:=#[.int .i64 0,.int .i64 0,.int .i64 0,.int .i64 0,.int .i64 0]) ?_ 0 _ rfl;(with_reducible repeat (first|refine blk_drewN ?_ _|refine blk_drew ?_|refine blk_alloc ?_ _));exact BK333.out⟩,⟨uq32⟩⟩
  case rest =>
   clear HC11
   try clear c1
   try clear c2
   try clear p2
   try clear c3
   try clear c3b0
   try clear c3b1
   try clear c5
   try clear c10
   try clear c11
   try clear c13
   try clear c16
   try clear c20
   try clear c21
   try clear c22
   try clear c22b0
   try clear c22b1
   try clear c23
   try clear c23b0
   try clear c23b1
   try clear c24
   try clear c24b0
   try clear c24b1
   try clear c26
   try clear hcz21_0
   try clear hcz21_1
   try clear hcz21_2
   try clear hcz21_3
   try clear hcz21_4
   try clear hfz21_0
   try clear hfz21_1
   try clear hfz21_2
   try clear hfz21_3
   try clear hfz21_4
   obtain ⟨kq,x59_10,rfl,HA,HJ10,HO_5,HO_6,BK333,HB⟩:=hcut
   cases kq with
   | zero=>exact absurd HA.out (by simp [shapesearchlaw10_SegmentBack.j0])
   | succ kj10 =>
    have H:=HA.out
    clear HA
    simp only [shapesearchlaw10_SegmentBack.j0] at H
    by_cases c29 : x59_10 = true
    ·
     subst c29
     have H1 : (some false) = some r:=by rw [if_pos rfl] at H;exact H
     clear H
     have H:=H1
     clear H1
     exact absurd ((Option.some.inj H).trans HTR_.out) (by decide)
    ·
     replace c29:=Bool.eq_false_iff.mpr c29
     subst c29
     have H1 : ((shapesearchref10_Measure.f t315).bind fun bt335=>(if 0 < (t319.length : Int) then ((segment_Decode.f kj10 l1).bind fun bt342=>((segment_Encode.f kj10 bt342.1).bind fun bt346=>(if (t327 == (wrap64 (rd t319 0)) && (t328 == bt335.2.1 && (t329 == bt335.2.2.1 && (t330 == bt335.2.2.2.1 && (t331 == bt335.2.2.2.2))))) = true then (if bt342.2 = 0 then (if bt346.2 = 0 then (if (strOfNums bt346.1).toList = (strOfNums l1).toList then ((shapesearchlaw10_awake.f kj10).bind fun t350=>(some t350)) else (some false)) else (some false)) else ((shapesearchlaw10_awake.f kj10).bind fun t351=>(some t351))) else (some false)))) else (none))) = some r:=by rw [if_neg (show ¬ (false = true) by decide)] at H;exact H
     clear H
     have H:=H1
     clear H1
     replace H:=Option.bind_eq_some_iff.mp H
     obtain ⟨⟨t335,t336,t337,t338,t339⟩,A300,H⟩:=H
     replace H : (if 0 < (t319.length : Int) then ((segment_Decode.f kj10 l1).bind fun bt342=>((segment_Encode.f kj10 bt342.1).bind fun bt346=>(if (t327 == (wrap64 (rd t319 0)) && (t328 == t336 && (t329 == t337 && (t330 == t338 && (t331 == t339))))) = true then (if bt342.2 = 0 then (if bt346.2 = 0 then (if (strOfNums bt346.1).toList = (strOfNums l1).toList then ((shapesearchlaw10_awake.f kj10).bind fun t350=>(some t350)) else (some false)) else (some false)) else ((shapesearchlaw10_awake.f kj10).bind fun t351=>(some t351))) else (some false)))) else (none)) = some r:=H
     have A30:=A_ A300
     clear A300
     by_cases c31 : 0 < (t319.length : Int)
     ·
      rw [if_pos c31] at H
      have c31b0 : decide (0 < (t319.length : Int)) = true:=decide_eq_true c31
      have c31b1 : decide (0 < t319.length) = true:=decide_eq_true (by omega)
      clear c31
      replace H:=Option.bind_eq_some_iff.mp H
      obtain ⟨⟨t342,t343⟩,A320,H⟩:=H
      replace H : ((segment_Encode.f kj10 t342).bind fun bt346=>(if (t327 == (wrap64 (rd t319 0)) && (t328 == t336 && (t329 == t337 && (t330 == t338 && (t331 == t339))))) = true then (if t343 = 0 then (if bt346.2 = 0 then (if (strOfNums bt346.1).toList = (strOfNums l1).toList then ((shapesearchlaw10_awake.f kj10).bind fun t350=>(some t350)) else (some false)) else (some false)) else ((shapesearchlaw10_awake.f kj10).bind fun t351=>(some t351))) else (some false))) = some r:=H
      have A32:=A_ A320
      clear A320
      replace H:=Option.bind_eq_some_iff.mp H
      obtain ⟨⟨t346,t347⟩,A330,H⟩:=H
      replace H : (if (t327 == (wrap64 (rd t319 0)) && (t328 == t336 && (t329 == t337 && (t330 == t338 && (t331 == t339))))) = true then (if t343 = 0 then (if t347 = 0 then (if (strOfNums t346).toList = (strOfNums l1).toList then ((shapesearchlaw10_awake.f kj10).bind fun t350=>(some t350)) else (some false)) else (some false)) else ((shapesearchlaw10_awake.f kj10).bind fun t351=>(some t351))) else (some false)) = some r:=H
      have A33:=A_ A330
      clear A330
      have HC34:=A_ H
      clear H
      go_upto_region 13 with (first|((with_reducible refine gate_callee (f:=12) rfl ?_);refine gl (some 61) Try.func12 #[.slice Ao14 t315.length co14] ?_;(with_reducible refine (shapesearchref10_Measure.calls _ _ t315 t335 t336 t337 t338 t339 _ ?side1 ?side2 A30.out).mono ?_);(case side1=>exact cx ((rd_ HO_5.out).2.2));(case side2=>exact (rd_ HO_5.out).2.1);rintro e w35 ⟨rfl,hb⟩;refine ⟨_,rfl,?_⟩;replace HO_5:=A_ (rw_ (rx HO_5.out) hb);replace HO_6:=A_ (rw_ (rx HO_6.out) hb);replace BK333:=A_ (blk_below (g:=gb333) (o:=.cells #[.int .i64 t327,.int .i64 t328,.int .i64 t329,.int .i64 t330,.int .i64 t331] 27 (0,0)) uq25 hb);replace HB:=A_ (below_step uq36 hb);(try clear hb);(try clear hb2);(try clear hk);(try clear hi))|((with_reducible refine gate_dst (N:=12) rfl ?_);(try (refine gate_guard (by rfl) ?_;dsimp only));refine box_event ?hg (N:=12) ?hd (cs:=#[.int .i64 0,.int .i64 0,.int .i64 0,.int .i64 0,.int .i64 0]) (t:=27) ?hr ?_;(case hd=>rfl);(case hg=>rfl);(case hr=>first|(go_simp;done)|(go_simp;rfl));intro gb340 hg w36 hbox hb;have n0_:=A_ (rw_ (rx HO_5.out) hb);have n1_:=A_ (rw_ (rx HO_6.out) hb);have n2_:=A_ (blk_below (g:=gb333) (o:=.cells #[.int .i64 t327,.int .i64 t328,.int .i64 t329,.int .i64 t330,.int .i64 t331] 27 (0,0)) uq25 hb);have n3_:=A_ (below_step uq36 hb);have n4_:=A_ (hbox);have n5_:=A_ ((by rw [hg];exact (below_size uq36) : w.heap.size ≤ gb340));have n6_:=A_ ((by rw [hg];exact (below_size uq36) : w.heap.size ≤ gb340));have n7_:=A_ ((by rw [hg];exact Nat.ne_of_lt (blk_lt (g:=gb333) (o:=.cells #[.int .i64 t327,.int .i64 t328,.int .i64 t329,.int .i64 t330,.int .i64 t331] 27 (0,0)) uq25) : gb333≠gb340));have n8_:=A_ ((by rw [hg];exact Nat.ne_of_gt (blk_lt (g:=gb333) (o:=.cells #[.int .i64 t327,.int .i64 t328,.int .i64 t329,.int .i64 t330,.int .i64 t331] 27 (0,0)) uq25) : gb340≠gb333));clear HO_5;clear HO_6;clear BK333;clear HB;have HO_5:=n0_;have HO_6:=n1_;have BK333:=n2_;have HB:=n3_;have BK340:=n4_;have GW340:=n5_;have GE340:=n6_;have NB333_340:=n7_;have NB340_333:=n8_;clear n0_ n1_ n2_ n3_ n4_ n5_ n6_ n7_ n8_;clear hb hbox hg;have hnb37:=NB340_333.out;have hnc37:=NB333_340.out;have hcz38_0 : w36.cell? ⟨gb340,0,none⟩ = some (.int .i64 0):=(blk_cell BK340.out 0).trans rfl;have hcz38_1 : w36.cell? ⟨gb340,1,none⟩ = some (.int .i64 0):=(blk_cell BK340.out 1).trans rfl;have hcz38_2 : w36.cell? ⟨gb340,2,none⟩ = some (.int .i64 0):=(blk_cell BK340.out 2).trans rfl;have hcz38_3 : w36.cell? ⟨gb340,3,none⟩ = some (.int .i64 0):=(blk_cell BK340.out 3).trans rfl;have hcz38_4 : w36.cell? ⟨gb340,4,none⟩ = some (.int .i64 0):=(blk_cell BK340.out 4).trans rfl;have hfz38_0:=blk_frozen BK340.out 0;have hfz38_1:=blk_frozen BK340.out 1;have hfz38_2:=blk_frozen BK340.out 2;have hfz38_3:=blk_frozen BK340.out 3;have hfz38_4:=blk_frozen BK340.out 4;have p341 : 0 ≤ (0 : Int):=(by omega);have q341 : 0 < (t319.length : Int):=of_decide_eq_true uq1;obtain ⟨ad341,e341,hx341_0⟩:=Kd.at_int (rd_ HO_6.out).2.2 0 p341 q341;cases e341;have qi341 : (0 < t319.length) = True:=eq_true (by omega);(try rw [show ((0 : Int)).toNat = 0 from rfl] at hx341_0);(try rw [Addr.add_zero'] at hx341_0);have hn341_0 : ad341.block≠gb340:=Kd.own_blk (Kd.R_ne HO_6.out BK340.out (by decide));have hn341_1 : ad341.block≠gb340:=Kd.own_blk (Kd.R_ne HO_6.out BK340.out (by decide));have hn341_2 : ad341.block≠gb340:=Kd.own_blk (Kd.R_ne HO_6.out BK340.out (by decide));have hn341_3 : ad341.block≠gb340:=Kd.own_blk (Kd.R_ne HO_6.out BK340.out (by decide));have hn341_4 : ad341.block≠gb340:=Kd.own_blk (Kd.R_ne HO_6.out BK340.out (by decide));replace hx341_0:=(cell_far (p:=⟨gb340,0,none⟩) (by first|(rw [add_block];exact hn341_0)|(show (Addr.add _ _).block≠_;rw [add_block];exact hn341_0)|exact hn341_0) (.int .i64 t335)).trans hx341_0;replace hx341_0:=(cell_far (p:=⟨gb340,1,none⟩) (by first|(rw [add_block];exact hn341_1)|(show (Addr.add _ _).block≠_;rw [add_block];exact hn341_1)|exact hn341_1) (.int .i64 t336)).trans hx341_0;replace hx341_0:=(cell_far (p:=⟨gb340,2,none⟩) (by first|(rw [add_block];exact hn341_2)|(show (Addr.add _ _).block≠_;rw [add_block];exact hn341_2)|exact hn341_2) (.int .i64 t337)).trans hx341_0;replace hx341_0:=(cell_far (p:=⟨gb340,3,none⟩) (by first|(rw [add_block];exact hn341_3)|(show (Addr.add _ _).block≠_;rw [add_block];exact hn341_3)|exact hn341_3) (.int .i64 t338)).trans hx341_0;replace hx341_0:=(cell_far (p:=⟨gb340,4,none⟩) (by first|(rw [add_block];exact hn341_4)|(show (Addr.add _ _).block≠_;rw [add_block];exact hn341_4)|exact hn341_4) (.int .i64 t339)).trans hx341_0;clear hn341_0;clear hn341_1;clear hn341_2;clear hn341_3;clear hn341_4;replace p341:=eq_true p341;replace q341:=eq_true q341)|((with_reducible refine gate_callee (f:=21) rfl ?_);refine gl (some 69) Try.func21 #[.slice A1 l1.length c1] ?_;(with_reducible refine (segment_Decode.calls kj10 _ _ l1 t342 t343 _ ?side1 ?side2 A32.out).mono ?_);(case side1=>exact cl HR1.out uq20);(case side2=>exact HC1.out);rintro e w39 ⟨v344,rfl,ho0,hb⟩;refine ⟨_,rfl,?_⟩;have n0_:=A_ (re (by (with_reducible repeat (first|apply ra|apply rb|apply rc));exact (rm (Kd.R_far (p:=⟨gb340,0,none⟩) (Kd.R_far (p:=⟨gb340,4,none⟩) (Kd.R_far (p:=⟨gb340,3,none⟩) (Kd.R_far (p:=⟨gb340,2,none⟩) (Kd.R_far (p:=⟨gb340,1,none⟩) (Kd.R_far (p:=⟨gb340,0,none⟩) (Kd.R_types HO_5.out BK340.out (by decide)) (fun _ hk=>hk.2) (.int .i64 t335)) (fun _ hk=>hk.2) (.int .i64 t336)) (fun _ hk=>hk.2) (.int .i64 t337)) (fun _ hk=>hk.2) (.int .i64 t338)) (fun _ hk=>hk.2) (.int .i64 t339)) (fun _ hk=>hk.2) (.int .i64 (wrap64 (rd t319 0)))) (fun _ h_=>h_.1))) (rs ho0) hb);have n1_:=A_ (rw_ (by (with_reducible repeat (first|apply ra|apply rb|apply rc));exact (rm (Kd.R_far (p:=⟨gb340,0,none⟩) (Kd.R_far (p:=⟨gb340,4,none⟩) (Kd.R_far (p:=⟨gb340,3,none⟩) (Kd.R_far (p:=⟨gb340,2,none⟩) (Kd.R_far (p:=⟨gb340,1,none⟩) (Kd.R_far (p:=⟨gb340,0,none⟩) (Kd.R_types HO_6.out BK340.out (by decide)) (fun _ hk=>hk.2) (.int .i64 t335)) (fun _ hk=>hk.2) (.int .i64 t336)) (fun _ hk=>hk.2) (.int .i64 t337)) (fun _ hk=>hk.2) (.int .i64 t338)) (fun _ hk=>hk.2) (.int .i64 t339)) (fun _ hk=>hk.2) (.int .i64 (wrap64 (rd t319 0)))) (fun _ h_=>h_.1))) hb);have n2_:=A_ (Kd.R_lower (rn ho0 (rl (by (with_reducible repeat (first|apply ra|apply rb|apply rc));exact (rm (Kd.R_far (p:=⟨gb340,0,none⟩) (Kd.R_far (p:=⟨gb340,4,none⟩) (Kd.R_far (p:=⟨gb340,3,none⟩) (Kd.R_far (p:=⟨gb340,2,none⟩) (Kd.R_far (p:=⟨gb340,1,none⟩) (Kd.R_far (p:=⟨gb340,0,none⟩) (Kd.R_types HO_5.out BK340.out (by decide)) (fun _ hk=>hk.2) (.int .i64 t335)) (fun _ hk=>hk.2) (.int .i64 t336)) (fun _ hk=>hk.2) (.int .i64 t337)) (fun _ hk=>hk.2) (.int .i64 t338)) (fun _ hk=>hk.2) (.int .i64 t339)) (fun _ hk=>hk.2) (.int .i64 (wrap64 (rd t319 0)))) (fun _ h_=>h_.1))))) (below_size uq20));have n3_:=A_ (blk_below (g:=gb333) (o:=.cells #[.int .i64 t327,.int .i64 t328,.int .i64 t329,.int .i64 t330,.int .i64 t331] 27 (0,0)) (by (with_reducible repeat (first|refine blk_drewN ?_ _|refine blk_drew ?_|refine blk_alloc ?_ _));refine blk_far ?_ NB333_340.out _;(with_reducible repeat (first|refine blk_drewN ?_ _|refine blk_drew ?_|refine blk_alloc ?_ _));refine blk_far ?_ NB333_340.out _;(with_reducible repeat (first|refine blk_drewN ?_ _|refine blk_drew ?_|refine blk_alloc ?_ _));refine blk_far ?_ NB333_340.out _;(with_reducible repeat (first|refine blk_drewN ?_ _|refine blk_drew ?_|refine blk_alloc ?_ _));refine blk_far ?_ NB333_340.out _;(with_reducible repeat (first|refine blk_drewN ?_ _|refine blk_drew ?_|refine blk_alloc ?_ _));refine blk_far ?_ NB333_340.out _;(with_reducible repeat (first|refine blk_drewN ?_ _|refine blk_drew ?_|refine blk_alloc ?_ _));refine blk_far ?_ NB333_340.out _;(with_reducible repeat (first|refine blk_drewN ?_ _|refine blk_drew ?_|refine blk_alloc ?_ _));exact BK333.out) hb);have n4_:=A_ (blk_below (g:=gb340) (o:=.cells #[.int .i64 (wrap64 (rd t319 0)),.int .i64 t336,.int .i64 t337,.int .i64 t338,.int .i64 t339] 27 (0,0)) (by (with_reducible repeat (first|refine blk_drewN ?_ _|refine blk_drew ?_|refine blk_alloc ?_ _));refine blk_put (cs:=#[.int .i64 t335,.int .i64 t336,.int .i64 t337,.int .i64 t338,.int .i64 t339]) ?_ 0 _ rfl;(with_reducible repeat (first|refine blk_drewN ?_ _|refine blk_drew ?_|refine blk_alloc ?_ _));refine blk_put (cs:=#[.int .i64 t335,.int .i64 t336,.int .i64 t337,.int .i64 t338,.int .i64 0]) ?_ 4 _ rfl;(with_reducible repeat (first|refine blk_drewN ?_ _|refine blk_drew ?_|refine blk_alloc ?_ _));refine blk_put (cs:=#[.int .i64 t335,.int .i64 t336,.int .i64 t337,.int .i64 0,.int .i64 0]) ?_ 3 _ rfl;(with_reducible repeat (first|refine blk_drewN ?_ _|refine blk_drew ?_|refine blk_alloc ?_ _));refine blk_put (cs:=#[.int .i64 t335,.int .i64 t336,.int .i64 0,.int .i64 0,.int .i64 0]) ?_ 2 _ rfl;(with_reducible repeat (first|refine blk_drewN ?_ _|refine blk_drew ?_|refine blk_alloc ?_ _));refine blk_put (cs:=#[.int .i64 t335,.int .i64 0,.int .i64 0,.int .i64 0,.int .i64 0]) ?_ 1 _ rfl;(with_reducible repeat (first|refine blk_drewN ?_ _|refine blk_drew ?_|refine blk_alloc ?_ _));refine blk_put (cs:=#[.int .i64 0,.int .i64 0,.int .i64 0,.int .i64 0,.int .i64 0]) ?_ 0 _ rfl;(with_reducible repeat (first|refine blk_drewN ?_ _|refine blk_drew ?_|refine blk_alloc ?_ _));exact BK340.out) hb);have n5_:=A_ (below_step uq20 hb);clear HO_5;clear HO_6;clear BK333;clear BK340;clear HB;have HO_5:=n0_;have HO_6:=n1_;have HO345:=n2_;have BK333:=n3_;have BK340:=n4_;have HB:=n5_;clear n0_ n1_ n2_ n3_ n4_ n5_;(try clear hb);(try clear hb2);(try clear hk);(try clear hi);(try clear ho0);obtain ⟨Ao40,co40,eo40⟩:=Kd.R_slice HO345.out;subst eo40)|((with_reducible refine gate_callee (f:=13) rfl ?_);refine gl (some 74) Try.func13 #[.slice Ao40 t342.length co40] ?_;(with_reducible refine (segment_Encode.calls kj10 _ _ t342 t346 t347 _ ?side1 ?side2 A33.out).mono ?_);(case side1=>exact cx ((rd_ HO345.out).2.2));(case side2=>exact (rd_ HO345.out).2.1);rintro e w41 ⟨v348,rfl,ho0,hb⟩;refine ⟨_,rfl,?_⟩;have n0_:=A_ (rw_ (rx HO_5.out) hb);have n1_:=A_ (re (rx HO_6.out) (rs ho0) hb);have n2_:=A_ (rw_ (rx HO345.out) hb);have n3_:=A_ (Kd.R_lower (rn ho0 (rl (rx HO_6.out))) (below_size uq20));have n4_:=A_ (blk_below (g:=gb333) (o:=.cells #[.int .i64 t327,.int .i64 t328,.int .i64 t329,.int .i64 t330,.int .i64 t331] 27 (0,0)) uq25 hb);have n5_:=A_ (blk_below (g:=gb340) (o:=.cells #[.int .i64 (wrap64 (rd t319 0)),.int .i64 t336,.int .i64 t337,.int .i64 t338,.int .i64 t339] 27 (0,0)) uq46 hb);have n6_:=A_ (below_step uq20 hb);clear HO_5;clear HO_6;clear HO345;clear BK333;clear BK340;clear HB;have HO_5:=n0_;have HO_6:=n1_;have HO345:=n2_;have HO349:=n3_;have BK333:=n4_;have BK340:=n5_;have HB:=n6_;clear n0_ n1_ n2_ n3_ n4_ n5_ n6_;(try clear hb);(try clear hb2);(try clear hk);(try clear hi);(try clear ho0)))
      (try simp only [Act.put,List.setIfInBounds_toArray,List.set_cons_zero,List.set_cons_succ])
      have H:=HC34.out
      clear HC34
      by_cases c42 : (t327 == (wrap64 (rd t319 0)) && (t328 == t336 && (t329 == t337 && (t330 == t338 && (t331 == t339))))) = true
      ·
       rw [if_pos c42] at H
       have c42b0 : (t327 == (wrap64 (rd t319 0)) && (t328 == t336 && (t329 == t337 && (t330 == t338 && (t331 == t339))))) = true:=c42
       (try (have c42b1 : decide (t327 = (wrap64 (rd t319 0)) && (t328 == t336 && (t329 == t337 && (t330 == t338 && (t331 == t339))))) = true:=by simpa using c42))
       (try (have c42b2 : (t327 == (wrap64 (rd t319 0)) && (t328 == t336 && (t329 == t337 && (t330 == t338 && (t331 == t339))))) = true:=by simpa using c42))
       clear c42
       (first|rw [c42b0]|(simp only [i64_w,i32_w];rw [c42b0])|skip)
       by_cases c43 : t343 = 0
       ·
        rw [if_pos c43] at H
        have c43b0 : (t343 == 0) = true:=beq_iff_eq.mpr c43
        have c43b1 : (t343 != 0) = false:=bne_eq_false_iff_eq.mpr c43
        clear c43
        by_cases c44 : t347 = 0
        ·
         rw [if_pos c44] at H
         have c44b0 : (t347 == 0) = true:=beq_iff_eq.mpr c44
         have c44b1 : (t347 != 0) = false:=bne_eq_false_iff_eq.mpr c44
         clear c44
         by_cases c45 : (strOfNums t346).toList = (strOfNums l1).toList
         ·
          rw [if_pos c45] at H
          have c45b0 : ((strOfNums t346).toList == (strOfNums l1).toList) = true:=beq_iff_eq.mpr c45
          have c45b1 : ((strOfNums t346).toList != (strOfNums l1).toList) = false:=bne_eq_false_iff_eq.mpr c45
          clear c45
          replace H:=Option.bind_eq_some_iff.mp H
          obtain ⟨t350,A460,H⟩:=H
          replace H : (some t350) = some r:=H
          have A46:=A_ A460
          clear A460
          obtain rfl:=Option.some.inj H
          have hnb47:=NB333_340.out
          have hnc47:=NB340_333.out
          have hcz48_0 : w41.cell? ⟨gb333,0,none⟩ = some (.int .i64 t327):=(blk_cell BK333.out 0).trans rfl
          have hcz48_1 : w41.cell? ⟨gb333,1,none⟩ = some (.int .i64 t328):=(blk_cell BK333.out 1).trans rfl
          have hcz48_2 : w41.cell? ⟨gb333,2,none⟩ = some (.int .i64 t329):=(blk_cell BK333.out 2).trans rfl
          have hcz48_3 : w41.cell? ⟨gb333,3,none⟩ = some (.int .i64 t330):=(blk_cell BK333.out 3).trans rfl
          have hcz48_4 : w41.cell? ⟨gb333,4,none⟩ = some (.int .i64 t331):=(blk_cell BK333.out 4).trans rfl
          have hfz48_0:=blk_frozen BK333.out 0
          have hfz48_1:=blk_frozen BK333.out 1
          have hfz48_2:=blk_frozen BK333.out 2
          have hfz48_3:=blk_frozen BK333.out 3
          have hfz48_4:=blk_frozen BK333.out 4
          have hcz49_0 : w41.cell? ⟨gb340,0,none⟩ = some (.int .i64 (wrap64 (rd t319 0))):=(blk_cell BK340.out 0).trans rfl
          have hcz49_1 : w41.cell? ⟨gb340,1,none⟩ = some (.int .i64 t336):=(blk_cell BK340.out 1).trans rfl
          have hcz49_2 : w41.cell? ⟨gb340,2,none⟩ = some (.int .i64 t337):=(blk_cell BK340.out 2).trans rfl
          have hcz49_3 : w41.cell? ⟨gb340,3,none⟩ = some (.int .i64 t338):=(blk_cell BK340.out 3).trans rfl
          have hcz49_4 : w41.cell? ⟨gb340,4,none⟩ = some (.int .i64 t339):=(blk_cell BK340.out 4).trans rfl
          have hfz49_0:=blk_frozen BK340.out 0
          have hfz49_1:=blk_frozen BK340.out 1
          have hfz49_2:=blk_frozen BK340.out 2
          have hfz49_3:=blk_frozen BK340.out 3
          have hfz49_4:=blk_frozen BK340.out 4
          have hcv50:=own_string (P:=Try.prog) Try.underlying29 Try.underlying5 Try.underlying9 (Kd.own_of_R HO349.out)
          have hcv51:=Kd.C_string (P:=Try.prog) (A:=A1) (c:=c1) Try.underlying29 Try.underlying5 Try.underlying9 (cl HR1.out HB.out)
          go_wp2_with (first|(go_at_call 16;(with_reducible refine (shapesearchlaw10_awake.calls kj10  t350 _ A46.out).mono ?_);rintro e w52 ⟨rfl,hb⟩;replace HO_5:=A_ (rw_ (rx HO_5.out) hb);replace HO_6:=A_ (rw_ (rx HO_6.out) hb);replace HO345:=A_ (rw_ (rx HO345.out) hb);replace HO349:=A_ (rw_ (rx HO349.out) hb);replace BK333:=A_ (blk_below (g:=gb333) (o:=.cells #[.int .i64 t327,.int .i64 t328,.int .i64 t329,.int .i64 t330,.int .i64 t331] 27 (0,0)) uq25 hb);replace BK340:=A_ (blk_below (g:=gb340) (o:=.cells #[.int .i64 (wrap64 (rd t319 0)),.int .i64 t336,.int .i64 t337,.int .i64 t338,.int .i64 t339] 27 (0,0)) uq46 hb);replace HB:=A_ (below_step uq20 hb);(try clear hb);(try clear hb2);(try clear hk);(try clear hi)))
          go_ret
          exact ⟨by first|rfl|(simp [errW_none,errW_some] <;> rfl)|(simp [*,errW_none,errW_some] <;> rfl),uq20⟩
         ·
          rw [if_neg c45] at H
          have c45b0 : ((strOfNums t346).toList == (strOfNums l1).toList) = false:=beq_eq_false_iff_ne.mpr c45
          have c45b1 : ((strOfNums t346).toList != (strOfNums l1).toList) = true:=bne_iff_ne.mpr c45
          exact absurd ((Option.some.inj H).trans HTR_.out) (by decide)
        ·
         rw [if_neg c44] at H
         have c44b0 : (t347 == 0) = false:=beq_eq_false_iff_ne.mpr c44
         have c44b1 : (t347 != 0) = true:=bne_iff_ne.mpr c44
         exact absurd ((Option.some.inj H).trans HTR_.out) (by decide)
       ·
        rw [if_neg c43] at H
        have c43b0 : (t343 == 0) = false:=beq_eq_false_iff_ne.mpr c43
        have c43b1 : (t343 != 0) = true:=bne_iff_ne.mpr c43
        replace H:=Option.bind_eq_some_iff.mp H
        obtain ⟨t351,A530,H⟩:=H
        replace H : (some t351) = some r:=H
        have A53:=A_ A530
        clear A530
        obtain rfl:=Option.some.inj H
        have hnb54:=NB333_340.out
        have hnc54:=NB340_333.out
        have hcz55_0 : w41.cell? ⟨gb333,0,none⟩ = some (.int .i64 t327):=(blk_cell BK333.out 0).trans rfl
        have hcz55_1 : w41.cell? ⟨gb333,1,none⟩ = some (.int .i64 t328):=(blk_cell BK333.out 1).trans rfl
        have hcz55_2 : w41.cell? ⟨gb333,2,none⟩ = some (.int .i64 t329):=(blk_cell BK333.out 2).trans rfl
        have hcz55_3 : w41.cell? ⟨gb333,3,none⟩ = some (.int .i64 t330):=(blk_cell BK333.out 3).trans rfl
        have hcz55_4 : w41.cell? ⟨gb333,4,none⟩ = some (.int .i64 t331):=(blk_cell BK333.out 4).trans rfl
        have hfz55_0:=blk_frozen BK333.out 0
        have hfz55_1:=blk_frozen BK333.out 1
        have hfz55_2:=blk_frozen BK333.out 2
        have hfz55_3:=blk_frozen BK333.out 3
        have hfz55_4:=blk_frozen BK333.out 4
        have hcz56_0 : w41.cell? ⟨gb340,0,none⟩ = some (.int .i64 (wrap64 (rd t319 0))):=(blk_cell BK340.out 0).trans rfl
        have hcz56_1 : w41.cell? ⟨gb340,1,none⟩ = some (.int .i64 t336):=(blk_cell BK340.out 1).trans rfl
        have hcz56_2 : w41.cell? ⟨gb340,2,none⟩ = some (.int .i64 t337):=(blk_cell BK340.out 2).trans rfl
        have hcz56_3 : w41.cell? ⟨gb340,3,none⟩ = some (.int .i64 t338):=(blk_cell BK340.out 3).trans rfl
        have hcz56_4 : w41.cell? ⟨gb340,4,none⟩ = some (.int .i64 t339):=(blk_cell BK340.out 4).trans rfl
        have hfz56_0:=blk_frozen BK340.out 0
        have hfz56_1:=blk_frozen BK340.out 1
        have hfz56_2:=blk_frozen BK340.out 2
        have hfz56_3:=blk_frozen BK340.out 3
        have hfz56_4:=blk_frozen BK340.out 4
        go_wp2_with (first|(go_at_call 16;(with_reducible refine (shapesearchlaw10_awake.calls kj10  t351 _ A53.out).mono ?_);rintro e w57 ⟨rfl,hb⟩;replace HO_5:=A_ (rw_ (rx HO_5.out) hb);replace HO_6:=A_ (rw_ (rx HO_6.out) hb);replace HO345:=A_ (rw_ (rx HO345.out) hb);replace HO349:=A_ (rw_ (rx HO349.out) hb);replace BK333:=A_ (blk_below (g:=gb333) (o:=.cells #[.int .i64 t327,.int .i64 t328,.int .i64 t329,.int .i64 t330,.int .i64 t331] 27 (0,0)) uq25 hb);replace BK340:=A_ (blk_below (g:=gb340) (o:=.cells #[.int .i64 (wrap64 (rd t319 0)),.int .i64 t336,.int .i64 t337,.int .i64 t338,.int .i64 t339] 27 (0,0)) uq46 hb);replace HB:=A_ (below_step uq20 hb);(try clear hb);(try clear hb2);(try clear hk);(try clear hi)))
        go_ret
        exact ⟨by first|rfl|(simp [errW_none,errW_some] <;> rfl)|(simp [*,errW_none,errW_some] <;> rfl),uq20⟩
      ·
       rw [if_neg c42] at H
       have c42b0 : (t327 == (wrap64 (rd t319 0)) && (t328 == t336 && (t329 == t337 && (t330 == t338 && (t331 == t339))))) = false:=by simpa using c42
       (try (have c42b1 : decide (t327 = (wrap64 (rd t319 0)) && (t328 == t336 && (t329 == t337 && (t330 == t338 && (t331 == t339))))) = false:=by simpa using c42))
       (try (have c42b2 : (t327 == (wrap64 (rd t319 0)) && (t328 == t336 && (t329 == t337 && (t330 == t338 && (t331 == t339))))) = false:=by simpa using c42))
       (try (have c42b3 : ¬ (t327 = (wrap64 (rd t319 0)) && (t328 == t336 && (t329 == t337 && (t330 == t338 && (t331 == t339))))):=by simpa using c42))
       clear c42
       (first|rw [c42b0]|(simp only [i64_w,i32_w];rw [c42b0])|skip)
       exact absurd ((Option.some.inj H).trans HTR_.out) (by decide)
     ·
      rw [if_neg c31] at H
      exact absurd H (by simp)

/-- THE ONE PURE STATEMENT of shapesearchlaw10_SegmentBack: yours. -/
def shapesearchlaw10_SegmentBack.Pure : Prop:=∀ (l0 : List Int) (l1 : List Int),l0.length ≤ maxLen → l0.length * 8 ≤ 140737488351232 → (∀ x ∈ l0,(Lit.int .i64 x).wf = true) → l1.length ≤ maxLen → l1.length * 1 ≤ 140737488351232 → (∀ x ∈ l1,(Lit.int .u8 x).wf = true) → ∃ k,shapesearchlaw10_SegmentBack.f k l0 l1 = some true
theorem shapesearchlaw10_SegmentBack.walk (P : shapesearchlaw10_SegmentBack.Pure) (a0 : Option Addr) (len0 cap0 : Nat) (z0 : List Int) (a1 : Option Addr) (len1 cap1 : Nat) (z1 : List Int) (w : World) (w0 : (a0 = none∧len0 = 0∧cap0 = 0∧z0 = []) ∨ ∃ x,a0 = some x∧len0 ≤ cap0∧cap0 ≤ maxLen∧z0.length = cap0∧(∀ i,i < z0.length → w.cell? (x.add i) = some (.int .i64 (z0.getD i 0)))∧∀ n ∈ z0,(Lit.int .i64 n).wf = true) (y0 : len0 * 8 ≤ 140737488351232) (w1 : (a1 = none∧len1 = 0∧cap1 = 0∧z1 = []) ∨ ∃ x,a1 = some x∧len1 ≤ cap1∧cap1 ≤ maxLen∧z1.length = cap1∧(∀ i,i < z1.length → w.cell? (x.add i) = some (.int .u8 (z1.getD i 0)))∧∀ n ∈ z1,(Lit.int .u8 n).wf = true) (y1 : len1 * 1 ≤ 140737488351232) :
  Calls Try.prog 5 #[.slice a0 len0 cap0,.slice a1 len1 cap1] w fun e w'=>e = .returned (.bool true)∧Below w.heap.size w w':=by
 obtain ⟨l0,rfl,hr0,hm0,hw0,hc0⟩:=ReadsInt.ofRowC w0
 obtain ⟨l1,rfl,hr1,hm1,hw1,hc1⟩:=ReadsInt.ofRowC w1
 obtain ⟨k,h⟩:=P l0 l1 hm0 y0 hw0 hm1 y1 hw1
 refine (shapesearchlaw10_SegmentBack.calls k _ _ l0 _ _ l1 true w (Kd.C_of_reads (d:=(0 : Int)) (h1:=fun _=>rfl) hr0) hc0 (Kd.C_of_reads (d:=(0 : Int)) (h1:=fun _=>rfl) hr1) hc1 h rfl).mono ?_
 rintro e w' ⟨rfl,hd⟩
 exact ⟨rfl,hd⟩

end Go.Proofs.Ytdnhfofmfpgmmaa.PSegmentBack
