/- This file proves, function by function, what the Go functions that one law uses compute; most of it was printed by a program (wip/tools of this session, over the kit's print). -/
import Derived.Test.YtodipcfbgnljeaaPChannelsGreatestx0
import Derived.Test.YtodipcfbgnljeaaPChannelsGreatestx7
namespace Go.Proofs.Ytodipcfbgnljeaa.PChannelsGreatest
open Go.RowKit Go.Proofs.YtodipcfbgnljeaaW.PrintWords Go.Proofs.YtodipcfbgnljeaaW.PrintLast Go.Proofs.YtodipcfbgnljeaaW.PrintMore
attribute [local go_sem] max2_int min2_int max_two min_two max_three min_three max_four min_four   -- for this text's walks alone
set_option linter.unusedVariables false
set_option linter.unusedSimpArgs false

/-! ### shapesearchref12_Two: function 57 -/
mutual
def shapesearchref12_Two.j0 : Nat → List Int → List Int → Int → Bool → Option (Int)
 | 0,_,_,_,_=>none
 | k + 1,x0,x1,x2,x24=>if x24 = true then (some 8) else ((shapesearchref12_Samples.f k x0).bind fun t306=>(if t306 = 0 then ((shapesearchref12_Samples.f k x1).bind fun t307=>(shapesearchref12_Two.j1 k x0 x1 x2 (t307 != 0))) else (shapesearchref12_Two.j1 k x0 x1 x2 true)))
def shapesearchref12_Two.j1 : Nat → List Int → List Int → Int → Bool → Option (Int)
 | 0,_,_,_,_=>none
 | k + 1,x0,x1,x2,x32=>if x32 = true then (some 12) else (if (wrap64 ((x0.length : Int) - (x1.length : Int))) > x2 then (some 8) else (if (wrap64 ((x1.length : Int) - (x0.length : Int))) > x2 then (some 8) else (some 0)))
end
def shapesearchref12_Two.f (k : Nat) (l0 : List Int) (l1 : List Int) (a2 : Int) : Option (Int):=if (l0.length : Int) < 2 then (shapesearchref12_Two.j0 k l0 l1 a2 true) else (if (l0.length : Int) > 32 then (shapesearchref12_Two.j0 k l0 l1 a2 true) else (if (l1.length : Int) < 2 then (shapesearchref12_Two.j0 k l0 l1 a2 true) else (shapesearchref12_Two.j0 k l0 l1 a2 (decide ((l1.length : Int) > 32)))))
theorem shapesearchref12_Two.mono_l : ∀ k,(∀ y0 y1 y2 y3,LeO (shapesearchref12_Two.j0 k y0 y1 y2 y3) (shapesearchref12_Two.j0 (k + 1) y0 y1 y2 y3))∧(∀ y0 y1 y2 y3,LeO (shapesearchref12_Two.j1 k y0 y1 y2 y3) (shapesearchref12_Two.j1 (k + 1) y0 y1 y2 y3))
 | 0=>⟨fun _ _ _ _ r h=>by simp [shapesearchref12_Two.j0] at h,fun _ _ _ _ r h=>by simp [shapesearchref12_Two.j1] at h⟩
 | k + 1=>by
  obtain ⟨ih0,ih1⟩:=shapesearchref12_Two.mono_l k
  refine ⟨?_,?_⟩
  ·
   intro y0 y1 y2 y3
   unfold shapesearchref12_Two.j0
   repeat' first
   | (with_reducible exact ih0 _ _ _ _)
   | (with_reducible exact ih1 _ _ _ _)
   | (with_reducible exact shapesearchref12_Samples.mono _ _)
   | (with_reducible exact LeO.refl _)
   | (with_reducible exact LeO.none _)
   | (with_reducible refine LeO.ite ?_ ?_)
   | (with_reducible refine LeO.bind ?_ (fun _=>?_))
   | exact ih0 _ _ _ _
   | exact ih1 _ _ _ _
   | exact shapesearchref12_Samples.mono _ _
   | exact LeO.none _
   | refine LeO.ite ?_ ?_
   | refine LeO.bind ?_ (fun _=>?_)
  ·
   intro y0 y1 y2 y3
   unfold shapesearchref12_Two.j1
   repeat' first
   | (with_reducible exact ih0 _ _ _ _)
   | (with_reducible exact ih1 _ _ _ _)
   | (with_reducible exact shapesearchref12_Samples.mono _ _)
   | (with_reducible exact LeO.refl _)
   | (with_reducible exact LeO.none _)
   | (with_reducible refine LeO.ite ?_ ?_)
   | (with_reducible refine LeO.bind ?_ (fun _=>?_))
   | exact ih0 _ _ _ _
   | exact ih1 _ _ _ _
   | exact shapesearchref12_Samples.mono _ _
   | exact LeO.none _
   | refine LeO.ite ?_ ?_
   | refine LeO.bind ?_ (fun _=>?_)
theorem shapesearchref12_Two.mono : ∀ a0 a1 a2 k,LeO (shapesearchref12_Two.f k a0 a1 a2) (shapesearchref12_Two.f (k + 1) a0 a1 a2):=by
 intro a0 a1 a2 k
 obtain ⟨ih0,ih1⟩:=shapesearchref12_Two.mono_l k
 unfold shapesearchref12_Two.f
 repeat' first
   | (with_reducible exact ih0 _ _ _ _)
   | (with_reducible exact ih1 _ _ _ _)
   | (with_reducible exact shapesearchref12_Samples.mono _ _)
   | (with_reducible exact LeO.refl _)
   | (with_reducible exact LeO.none _)
   | (with_reducible refine LeO.ite ?_ ?_)
   | (with_reducible refine LeO.bind ?_ (fun _=>?_))
   | exact ih0 _ _ _ _
   | exact ih1 _ _ _ _
   | exact shapesearchref12_Samples.mono _ _
   | exact LeO.none _
   | refine LeO.ite ?_ ?_
   | refine LeO.bind ?_ (fun _=>?_)
set_option maxHeartbeats 8000000 in
set_option maxRecDepth 100000 in
theorem shapesearchref12_Two.calls (k : Nat) (A0 : Option Addr) (c0 : Nat) (l0 : List Int) (A1 : Option Addr) (c1 : Nat) (l1 : List Int) (a2 : Int) (r : Int) (w : World) (hr0 : Kd.C (Kd.int .i64) w A0 l0.length l0) (hc0 : l0.length ≤ c0) (hr1 : Kd.C (Kd.int .i64) w A1 l1.length l1) (hc1 : l1.length ≤ c1) (h : shapesearchref12_Two.f k l0 l1 a2 = some r) :
  Calls Try.prog 57 #[.slice A0 l0.length c0,.slice A1 l1.length c1,.int .i64 a2] w fun e w'=>e = .returned (.int .i64 r)∧Drawn0 w w':=by
 have HR0:=A_ hr0
 have HC0:=A_ hc0
 clear hr0 hc0
 have HR1:=A_ hr1
 have HC1:=A_ hc1
 clear hr1 hc1
 have H : (if (l0.length : Int) < 2 then (shapesearchref12_Two.j0 k l0 l1 a2 true) else (if (l0.length : Int) > 32 then (shapesearchref12_Two.j0 k l0 l1 a2 true) else (if (l1.length : Int) < 2 then (shapesearchref12_Two.j0 k l0 l1 a2 true) else (shapesearchref12_Two.j0 k l0 l1 a2 (decide ((l1.length : Int) > 32)))))) = some r:=h
 clear h
 have HC4:=A_ H
 clear H
 go_enter Try.func57,Try.ntmps57
 go_upto_region 1 with (fail)
 go_cut [24] (fun v24 wc=>∃ (kq : Nat) (x24_3 : Bool),v24 = .bool x24_3∧Aside0 (shapesearchref12_Two.j0 kq l0 l1 a2 x24_3 = some r)∧Aside0 (kq ≤ k)∧Drawn0 w wc)
 case first =>
  have H:=HC4.out
  clear HC4
  by_cases c5 : (l0.length : Int) < 2
  ·
   rw [if_pos c5] at H
   have c5b0 : decide ((l0.length : Int) < 2) = true:=decide_eq_true c5
   have c5b1 : decide (l0.length < 2) = true:=decide_eq_true (by omega)
   clear c5
   (first|rw [c5b0]|(simp only [i64_w,i32_w];rw [c5b0])|skip)
   have H':=A_ H
   clear H
   go_wp2
   go_meet
   case rel=>exact ⟨_,(true),(by first|rfl|(simp;done)|(simp [*];done)),H',⟨by first|omega|exact Nat.le_refl _⟩,by repeat (first|exact Drawn0.refl _|apply Drawn0.step)⟩
  ·
   rw [if_neg c5] at H
   have c5b0 : decide ((l0.length : Int) < 2) = false:=decide_eq_false c5
   have c5b1 : decide (l0.length < 2) = false:=decide_eq_false (by omega)
   clear c5
   (first|rw [c5b0]|(simp only [i64_w,i32_w];rw [c5b0])|skip)
   by_cases c6 : (l0.length : Int) > 32
   ·
    rw [if_pos c6] at H
    have c6b0 : decide (32 < (l0.length : Int)) = true:=decide_eq_true c6
    have c6b1 : decide (32 < l0.length) = true:=decide_eq_true (by omega)
    clear c6
    have H':=A_ H
    clear H
    go_wp2
    go_meet
    case rel=>exact ⟨_,(true),(by first|rfl|(simp;done)|(simp [*];done)),H',⟨by first|omega|exact Nat.le_refl _⟩,by repeat (first|exact Drawn0.refl _|apply Drawn0.step)⟩
   ·
    rw [if_neg c6] at H
    have c6b0 : decide (32 < (l0.length : Int)) = false:=decide_eq_false c6
    have c6b1 : decide (32 < l0.length) = false:=decide_eq_false (by omega)
    clear c6
    by_cases c7 : (l1.length : Int) < 2
    ·
     rw [if_pos c7] at H
     have c7b0 : decide ((l1.length : Int) < 2) = true:=decide_eq_true c7
     have c7b1 : decide (l1.length < 2) = true:=decide_eq_true (by omega)
     clear c7
     have H':=A_ H
     clear H
     go_wp2
     go_meet
     case rel=>exact ⟨_,(true),(by first|rfl|(simp;done)|(simp [*];done)),H',⟨by first|omega|exact Nat.le_refl _⟩,by repeat (first|exact Drawn0.refl _|apply Drawn0.step)⟩
    ·
     rw [if_neg c7] at H
     have c7b0 : decide ((l1.length : Int) < 2) = false:=decide_eq_false c7
     have c7b1 : decide (l1.length < 2) = false:=decide_eq_false (by omega)
     clear c7
     have H':=A_ H
     clear H
     go_wp2
     go_meet
     case rel=>exact ⟨_,(decide ((l1.length : Int) > 32)),(by first|rfl|(simp;done)|(simp [*];done)),H',⟨by first|omega|exact Nat.le_refl _⟩,by repeat (first|exact Drawn0.refl _|apply Drawn0.step)⟩
 case rest =>
  clear HC4
  try clear c1
  try clear p2
  try clear c5
  try clear c5b0
  try clear c5b1
  try clear c6
  try clear c6b0
  try clear c6b1
  try clear c7
  try clear c7b0
  try clear c7b1
  obtain ⟨kq,x24_3,rfl,HA,HJ3,⟨mc3,rfl⟩⟩:=hcut
  cases kq with
  | zero=>exact absurd HA.out (by simp [shapesearchref12_Two.j0])
  | succ kj3 =>
   have H:=HA.out
   clear HA
   simp only [shapesearchref12_Two.j0] at H
   by_cases c8 : x24_3 = true
   ·
    subst c8
    have H1 : (some 8) = some r:=by rw [if_pos rfl] at H;exact H
    clear H
    have H:=H1
    clear H1
    obtain rfl:=Option.some.inj H
    go_wp2
    go_ret
    exact ⟨by first|rfl|(simp;done)|(simp [*];done),by repeat (first|exact Drawn0.refl _|apply Drawn0.step)⟩
   ·
    replace c8:=Bool.eq_false_iff.mpr c8
    subst c8
    have H1 : ((shapesearchref12_Samples.f kj3 l0).bind fun t306=>(if t306 = 0 then ((shapesearchref12_Samples.f kj3 l1).bind fun t307=>(shapesearchref12_Two.j1 kj3 l0 l1 a2 (t307 != 0))) else (shapesearchref12_Two.j1 kj3 l0 l1 a2 true))) = some r:=by rw [if_neg (show ¬ (false = true) by decide)] at H;exact H
    clear H
    have H:=H1
    clear H1
    have HC9:=A_ H
    clear H
    go_upto_region 3 with (fail)
    go_cut [32] (fun v32 wc=>∃ (kq : Nat) (x32_8 : Bool),v32 = .bool x32_8∧Aside0 (shapesearchref12_Two.j1 kq l0 l1 a2 x32_8 = some r)∧Aside0 (kq ≤ kj3)∧Drawn0 w wc)
    case first =>
     have H:=HC9.out
     clear HC9
     replace H:=Option.bind_eq_some_iff.mp H
     obtain ⟨t306,A100,H⟩:=H
     replace H : (if t306 = 0 then ((shapesearchref12_Samples.f kj3 l1).bind fun t307=>(shapesearchref12_Two.j1 kj3 l0 l1 a2 (t307 != 0))) else (shapesearchref12_Two.j1 kj3 l0 l1 a2 true)) = some r:=H
     have A10:=A_ A100
     clear A100
     by_cases c11 : t306 = 0
     ·
      rw [if_pos c11] at H
      have c11b0 : (t306 == 0) = true:=beq_iff_eq.mpr c11
      have c11b1 : (t306 != 0) = false:=bne_eq_false_iff_eq.mpr c11
      clear c11
      (first|rw [c11b0]|(simp only [i64_w,i32_w];rw [c11b0])|skip)
      replace H:=Option.bind_eq_some_iff.mp H
      obtain ⟨t307,A120,H⟩:=H
      replace H : (shapesearchref12_Two.j1 kj3 l0 l1 a2 (t307 != 0)) = some r:=H
      have A12:=A_ A120
      clear A120
      have H':=A_ H
      clear H
      go_wp2_with (first|((with_reducible refine gate_callee (f:=66) rfl ?_);refine goesL_ (some 26) rfl rfl Try.func66 (by kernel_rfl) rfl #[.slice A0 l0.length c0] rfl (by (try simp only [List.map_toArray,List.map_cons,List.map_nil]);first|done|rfl|(simp only [List.length_drop,List.length_take];rfl)) ?_;(with_reducible refine (shapesearchref12_Samples.calls kj3 _ _ l0 t306 _ ?side1 ?side2 A10.out).mono ?_);(case side1=>repeat (first|exact HR0.out|(with_reducible refine ca ?_ _)|(with_reducible refine cb ?_ _)|(with_reducible refine cc ?_)));(case side2=>exact HC0.out);rintro e w' ⟨rfl,⟨nd,rfl⟩⟩;refine ⟨_,rfl,?_⟩)|(go_at_call 66;(with_reducible refine (shapesearchref12_Samples.calls kj3 _ _ l1 t307 _ ?side1 ?side2 A12.out).mono ?_);(case side1=>repeat (first|exact HR1.out|(with_reducible refine ca ?_ _)|(with_reducible refine cb ?_ _)|(with_reducible refine cc ?_)));(case side2=>exact HC1.out);rintro e w' ⟨rfl,⟨nd,rfl⟩⟩))
      go_meet
      case rel=>exact ⟨_,((t307 != 0)),(by first|rfl|(simp;done)|(simp [*];done)),H',⟨by have:=HJ3.out;first|omega|exact Nat.le_refl _⟩,by repeat (first|exact Drawn0.refl _|apply Drawn0.step)⟩
     ·
      rw [if_neg c11] at H
      have c11b0 : (t306 == 0) = false:=beq_eq_false_iff_ne.mpr c11
      have c11b1 : (t306 != 0) = true:=bne_iff_ne.mpr c11
      (first|rw [c11b0]|(simp only [i64_w,i32_w];rw [c11b0])|skip)
      have H':=A_ H
      clear H
      go_wp2_with (first|((with_reducible refine gate_callee (f:=66) rfl ?_);refine goesL_ (some 26) rfl rfl Try.func66 (by kernel_rfl) rfl #[.slice A0 l0.length c0] rfl (by (try simp only [List.map_toArray,List.map_cons,List.map_nil]);first|done|rfl|(simp only [List.length_drop,List.length_take];rfl)) ?_;(with_reducible refine (shapesearchref12_Samples.calls kj3 _ _ l0 t306 _ ?side1 ?side2 A10.out).mono ?_);(case side1=>repeat (first|exact HR0.out|(with_reducible refine ca ?_ _)|(with_reducible refine cb ?_ _)|(with_reducible refine cc ?_)));(case side2=>exact HC0.out);rintro e w' ⟨rfl,⟨nd,rfl⟩⟩;refine ⟨_,rfl,?_⟩))
      go_meet
      case rel=>exact ⟨_,(true),(by first|rfl|(simp;done)|(simp [*];done)),H',⟨by have:=HJ3.out;first|omega|exact Nat.le_refl _⟩,by repeat (first|exact Drawn0.refl _|apply Drawn0.step)⟩
    case rest =>
     clear HC9
     try clear c1
     try clear p2
     try clear c3
     try clear c5
     try clear c5b0
     try clear c5b1
     try clear c6
     try clear c6b0
     try clear c6b1
     try clear c7
     try clear c7b0
     try clear c7b1
     try clear c8
     try clear c11
     try clear c11b0
     try clear c11b1
     try clear p2
     obtain ⟨kq,x32_8,rfl,HA,HJ8,⟨mc8,rfl⟩⟩:=hcut
     cases kq with
     | zero=>exact absurd HA.out (by simp [shapesearchref12_Two.j1])
     | succ kj8 =>
      have H:=HA.out
      clear HA
      simp only [shapesearchref12_Two.j1] at H
      by_cases c13 : x32_8 = true
      ·
       subst c13
       have H1 : (some 12) = some r:=by rw [if_pos rfl] at H;exact H
       clear H
       have H:=H1
       clear H1
       obtain rfl:=Option.some.inj H
       go_wp2
       go_ret
       exact ⟨by first|rfl|(simp;done)|(simp [*];done),by repeat (first|exact Drawn0.refl _|apply Drawn0.step)⟩
      ·
       replace c13:=Bool.eq_false_iff.mpr c13
       subst c13
       have H1 : (if (wrap64 ((l0.length : Int) - (l1.length : Int))) > a2 then (some 8) else (if (wrap64 ((l1.length : Int) - (l0.length : Int))) > a2 then (some 8) else (some 0))) = some r:=by rw [if_neg (show ¬ (false = true) by decide)] at H;exact H
       clear H
       have H:=H1
       clear H1
       by_cases c14 : (wrap64 ((l0.length : Int) - (l1.length : Int))) > a2
       ·
        rw [if_pos c14] at H
        have c14b0 : decide (a2 < (wrap64 ((l0.length : Int) - (l1.length : Int)))) = true:=decide_eq_true c14
        clear c14
        obtain rfl:=Option.some.inj H
        go_wp2
        go_ret
        exact ⟨by first|rfl|(simp;done)|(simp [*];done),by repeat (first|exact Drawn0.refl _|apply Drawn0.step)⟩
       ·
        rw [if_neg c14] at H
        have c14b0 : decide (a2 < (wrap64 ((l0.length : Int) - (l1.length : Int)))) = false:=decide_eq_false c14
        clear c14
        by_cases c15 : (wrap64 ((l1.length : Int) - (l0.length : Int))) > a2
        ·
         rw [if_pos c15] at H
         have c15b0 : decide (a2 < (wrap64 ((l1.length : Int) - (l0.length : Int)))) = true:=decide_eq_true c15
         clear c15
         obtain rfl:=Option.some.inj H
         go_wp2
         go_ret
         exact ⟨by first|rfl|(simp;done)|(simp [*];done),by repeat (first|exact Drawn0.refl _|apply Drawn0.step)⟩
        ·
         rw [if_neg c15] at H
         have c15b0 : decide (a2 < (wrap64 ((l1.length : Int) - (l0.length : Int)))) = false:=decide_eq_false c15
         clear c15
         obtain rfl:=Option.some.inj H
         go_wp2
         go_ret
         exact ⟨by first|rfl|(simp;done)|(simp [*];done),by repeat (first|exact Drawn0.refl _|apply Drawn0.step)⟩

/-! ### shapesearchref13_Product: function 48 -/
def shapesearchref13_Product.f (k : Nat) (l0 : List Int) (l1 : List Int) : Option (Int × Int):=(shapesearchref12_Two.f k l0 l1 0).bind fun t308=>(if t308 = 0 then ((shapesearchref13_product.f k l0 l1).bind fun t309=>(some (t309,0))) else (some (0,t308)))
theorem shapesearchref13_Product.mono : ∀ a0 a1 k,LeO (shapesearchref13_Product.f k a0 a1) (shapesearchref13_Product.f (k + 1) a0 a1):=by
 intro a0 a1 k
 unfold shapesearchref13_Product.f
 repeat' first
   | (with_reducible exact shapesearchref12_Two.mono _ _ _ _)
   | (with_reducible exact shapesearchref13_product.mono _ _ _)
   | (with_reducible exact LeO.refl _)
   | (with_reducible exact LeO.none _)
   | (with_reducible refine LeO.ite ?_ ?_)
   | (with_reducible refine LeO.bind ?_ (fun _=>?_))
   | exact shapesearchref12_Two.mono _ _ _ _
   | exact shapesearchref13_product.mono _ _ _
   | exact LeO.none _
   | refine LeO.ite ?_ ?_
   | refine LeO.bind ?_ (fun _=>?_)
set_option maxHeartbeats 8000000 in
set_option maxRecDepth 100000 in
theorem shapesearchref13_Product.calls (k : Nat) (A0 : Option Addr) (c0 : Nat) (l0 : List Int) (A1 : Option Addr) (c1 : Nat) (l1 : List Int) (r1 : Int) (r2 : Int) (w : World) (hr0 : Kd.C (Kd.int .i64) w A0 l0.length l0) (hc0 : l0.length ≤ c0) (hr1 : Kd.C (Kd.int .i64) w A1 l1.length l1) (hc1 : l1.length ≤ c1) (h : shapesearchref13_Product.f k l0 l1 = some (r1,r2)) :
  Calls Try.prog 48 #[.slice A0 l0.length c0,.slice A1 l1.length c1] w fun e w'=>e = .returned (.tuple #[.int .i64 r1,.int .i64 r2])∧Drawn0 w w':=by
 have HR0:=A_ hr0
 have HC0:=A_ hc0
 clear hr0 hc0
 have HR1:=A_ hr1
 have HC1:=A_ hc1
 clear hr1 hc1
 have H : ((shapesearchref12_Two.f k l0 l1 0).bind fun t308=>(if t308 = 0 then ((shapesearchref13_product.f k l0 l1).bind fun t309=>(some (t309,0))) else (some (0,t308)))) = some (r1,r2):=h
 clear h
 replace H:=Option.bind_eq_some_iff.mp H
 obtain ⟨t308,A30,H⟩:=H
 replace H : (if t308 = 0 then ((shapesearchref13_product.f k l0 l1).bind fun t309=>(some (t309,0))) else (some (0,t308))) = some (r1,r2):=H
 have A3:=A_ A30
 clear A30
 by_cases c4 : t308 = 0
 ·
  rw [if_pos c4] at H
  have c4b0 : (t308 == 0) = true:=beq_iff_eq.mpr c4
  have c4b1 : (t308 != 0) = false:=bne_eq_false_iff_eq.mpr c4
  clear c4
  replace H:=Option.bind_eq_some_iff.mp H
  obtain ⟨t309,A50,H⟩:=H
  replace H : (some (t309,0)) = some (r1,r2):=H
  have A5:=A_ A50
  clear A50
  simp only [Option.some.injEq,Prod.mk.injEq] at H
  obtain ⟨rfl,rfl⟩:=H
  go_enter Try.func48,Try.ntmps48
  go_wp2_with (first|((with_reducible refine gate_callee (f:=57) rfl ?_);refine goesL_ (some 9) rfl rfl Try.func57 (by kernel_rfl) rfl #[.slice A0 l0.length c0,.slice A1 l1.length c1,.int .i64 0] rfl (by (try simp only [List.map_toArray,List.map_cons,List.map_nil]);first|done|rfl|(simp only [List.length_drop,List.length_take];rfl)) ?_;(with_reducible refine (shapesearchref12_Two.calls k _ _ l0 _ _ l1 0 t308 _ ?side1 ?side2 ?side3 ?side4 A3.out).mono ?_);(case side1=>repeat (first|exact HR0.out|(with_reducible refine ca ?_ _)|(with_reducible refine cb ?_ _)|(with_reducible refine cc ?_)));(case side2=>exact HC0.out);(case side3=>repeat (first|exact HR1.out|(with_reducible refine ca ?_ _)|(with_reducible refine cb ?_ _)|(with_reducible refine cc ?_)));(case side4=>exact HC1.out);rintro e w' ⟨rfl,⟨nd,rfl⟩⟩;refine ⟨_,rfl,?_⟩)|((with_reducible refine gate_callee (f:=50) rfl ?_);refine goesL_ (some 15) rfl rfl Try.func50 (by kernel_rfl) rfl #[.slice A0 l0.length c0,.slice A1 l1.length c1] rfl (by (try simp only [List.map_toArray,List.map_cons,List.map_nil]);first|done|rfl|(simp only [List.length_drop,List.length_take];rfl)) ?_;(with_reducible refine (shapesearchref13_product.calls k _ _ l0 _ _ l1 t309 _ ?side1 ?side2 ?side3 ?side4 A5.out).mono ?_);(case side1=>repeat (first|exact HR0.out|(with_reducible refine ca ?_ _)|(with_reducible refine cb ?_ _)|(with_reducible refine cc ?_)));(case side2=>exact HC0.out);(case side3=>repeat (first|exact HR1.out|(with_reducible refine ca ?_ _)|(with_reducible refine cb ?_ _)|(with_reducible refine cc ?_)));(case side4=>exact HC1.out);rintro e w' ⟨rfl,⟨nd,rfl⟩⟩;refine ⟨_,rfl,?_⟩))
  go_ret2
  exact ⟨by first|rfl|(simp;done)|(simp [*];done),by repeat (first|exact Drawn0.refl _|apply Drawn0.step)⟩
 ·
  rw [if_neg c4] at H
  have c4b0 : (t308 == 0) = false:=beq_eq_false_iff_ne.mpr c4
  have c4b1 : (t308 != 0) = true:=bne_iff_ne.mpr c4
  simp only [Option.some.injEq,Prod.mk.injEq] at H
  obtain ⟨rfl,rfl⟩:=H
  go_enter Try.func48,Try.ntmps48
  go_wp2_with (first|((with_reducible refine gate_callee (f:=57) rfl ?_);refine goesL_ (some 9) rfl rfl Try.func57 (by kernel_rfl) rfl #[.slice A0 l0.length c0,.slice A1 l1.length c1,.int .i64 0] rfl (by (try simp only [List.map_toArray,List.map_cons,List.map_nil]);first|done|rfl|(simp only [List.length_drop,List.length_take];rfl)) ?_;(with_reducible refine (shapesearchref12_Two.calls k _ _ l0 _ _ l1 0 t308 _ ?side1 ?side2 ?side3 ?side4 A3.out).mono ?_);(case side1=>repeat (first|exact HR0.out|(with_reducible refine ca ?_ _)|(with_reducible refine cb ?_ _)|(with_reducible refine cc ?_)));(case side2=>exact HC0.out);(case side3=>repeat (first|exact HR1.out|(with_reducible refine ca ?_ _)|(with_reducible refine cb ?_ _)|(with_reducible refine cc ?_)));(case side4=>exact HC1.out);rintro e w' ⟨rfl,⟨nd,rfl⟩⟩;refine ⟨_,rfl,?_⟩))
  go_ret2
  exact ⟨by first|rfl|(simp;done)|(simp [*];done),by repeat (first|exact Drawn0.refl _|apply Drawn0.step)⟩

/-! ### shapesearchref01_common: function 64 -/
def shapesearchref01_common.l0 : Nat → Int → Int → Option (Int)
 | 0,_,_=>none
 | k + 1,x0,x1=>if x1 > 0 then (if x1 = 0 then (none) else (shapesearchref01_common.l0 k x1 (Int.tmod x0 x1))) else (some x0)
def shapesearchref01_common.f (k : Nat) (a0 : Int) (a1 : Int) : Option (Int):=shapesearchref01_common.l0 k a0 a1
theorem shapesearchref01_common.mono_l : ∀ k,(∀ y0 y1,LeO (shapesearchref01_common.l0 k y0 y1) (shapesearchref01_common.l0 (k + 1) y0 y1))
 | 0=>fun _ _ r h=>by simp [shapesearchref01_common.l0] at h
 | k + 1=>by
  have ih0:=shapesearchref01_common.mono_l k
  ·
   intro y0 y1
   unfold shapesearchref01_common.l0
   repeat' first
   | (with_reducible exact ih0 _ _)
   | (with_reducible exact LeO.refl _)
   | (with_reducible exact LeO.none _)
   | (with_reducible refine LeO.ite ?_ ?_)
   | (with_reducible refine LeO.bind ?_ (fun _=>?_))
   | exact ih0 _ _
   | exact LeO.none _
   | refine LeO.ite ?_ ?_
   | refine LeO.bind ?_ (fun _=>?_)
theorem shapesearchref01_common.mono : ∀ a0 a1 k,LeO (shapesearchref01_common.f k a0 a1) (shapesearchref01_common.f (k + 1) a0 a1):=by
 intro a0 a1 k
 have ih0:=shapesearchref01_common.mono_l k
 unfold shapesearchref01_common.f
 repeat' first
   | (with_reducible exact ih0 _ _)
   | (with_reducible exact LeO.refl _)
   | (with_reducible exact LeO.none _)
   | (with_reducible refine LeO.ite ?_ ?_)
   | (with_reducible refine LeO.bind ?_ (fun _=>?_))
   | exact ih0 _ _
   | exact LeO.none _
   | refine LeO.ite ?_ ?_
   | refine LeO.bind ?_ (fun _=>?_)
set_option maxHeartbeats 8000000 in
set_option maxRecDepth 100000 in
theorem shapesearchref01_common.calls (k : Nat) (a0 : Int) (a1 : Int) (r : Int) (w : World) (h : shapesearchref01_common.f k a0 a1 = some r) :
  Calls Try.prog 64 #[.int .i64 a0,.int .i64 a1] w fun e w'=>e = .returned (.int .i64 r)∧Drawn0 w w':=by
 have H : (shapesearchref01_common.l0 k a0 a1) = some r:=h
 clear h
 have H':=A_ H
 clear H
 go_enter Try.func64,Try.ntmps64
 go_wp2
 repeat (go_quiet (fail);try go_wp2)
 go_loopg [0,1] k (fun kq v0 v1 w'=>∃ (x0_1 : Int) (x1_1 : Int),v0 = .int .i64 x0_1∧v1 = .int .i64 x1_1∧Aside0 (shapesearchref01_common.l0 kq x0_1 x1_1 = some r)∧Aside0 (kq ≤ k)∧Drawn0 w w')
 case atStart=>exact ⟨(a0),(a1),(by first|rfl|(simp;done)|(simp [*];done)),(by first|rfl|(simp;done)|(simp [*];done)),H',⟨Nat.le_refl _⟩,by repeat (first|exact Drawn0.refl _|apply Drawn0.step)⟩
 case round =>
  clear H'
  try clear p2
  obtain ⟨x0_1,x1_1,rfl,rfl,HA,HK1,⟨m1,rfl⟩⟩:=hrel
  cases gk with
  | zero=>exact absurd HA.out (by simp [shapesearchref01_common.l0])
  | succ k1 =>
   have H:=HA.out
   clear HA
   simp only [shapesearchref01_common.l0] at H
   by_cases c3 : x1_1 > 0
   ·
    rw [if_pos c3] at H
    have c3b0 : decide (0 < x1_1) = true:=decide_eq_true c3
    clear c3
    by_cases c4 : x1_1 = 0
    ·
     rw [if_pos c4] at H
     exact absurd H (by simp)
    ·
     rw [if_neg c4] at H
     have c4b0 : (x1_1 == 0) = false:=beq_eq_false_iff_ne.mpr c4
     have c4b1 : (x1_1 != 0) = true:=bne_iff_ne.mpr c4
     have H':=A_ H
     clear H
     go_wp2
     repeat (go_quiet (fail);try go_wp2)
     go_roundg k1
     case measure=>have:=HK1.out;omega
     case rel=>exact ⟨(x1_1),(Int.tmod x0_1 x1_1),(by first|rfl|(simp;done)|(simp [*];done)),(by first|rfl|(simp;done)|(simp [*];done)),H',⟨by have:=HK1.out;omega⟩,by repeat (first|exact Drawn0.refl _|apply Drawn0.step)⟩
   ·
    rw [if_neg c3] at H
    have c3b0 : decide (0 < x1_1) = false:=decide_eq_false c3
    clear c3
    obtain rfl:=Option.some.inj H
    go_wp2
    repeat (go_quiet (fail);try go_wp2)
    go_ret
    exact ⟨by first|rfl|(simp;done)|(simp [*];done),by repeat (first|exact Drawn0.refl _|apply Drawn0.step)⟩

/-! ### shapesearchref01_Valid: function 42 -/
def shapesearchref01_Valid.f (k : Nat) (a0_0 : Int) (a0_1 : Int) : Option (Bool):=if a0_0 ≥ 0 then (if a0_0 ≤ 2305843009213693952 then (if a0_1 ≥ 1 then (if a0_1 ≤ 1152921504606846976 then ((shapesearchref01_common.f k a0_0 a0_1).bind fun t311=>(some (t311 == 1))) else (some false)) else (some false)) else (some false)) else (some false)
theorem shapesearchref01_Valid.mono : ∀ a0 a1 k,LeO (shapesearchref01_Valid.f k a0 a1) (shapesearchref01_Valid.f (k + 1) a0 a1):=by
 intro a0 a1 k
 unfold shapesearchref01_Valid.f
 repeat' first
   | (with_reducible exact shapesearchref01_common.mono _ _ _)
   | (with_reducible exact LeO.refl _)
   | (with_reducible exact LeO.none _)
   | (with_reducible refine LeO.ite ?_ ?_)
   | (with_reducible refine LeO.bind ?_ (fun _=>?_))
   | exact shapesearchref01_common.mono _ _ _
   | exact LeO.none _
   | refine LeO.ite ?_ ?_
   | refine LeO.bind ?_ (fun _=>?_)
set_option maxHeartbeats 8000000 in
set_option maxRecDepth 100000 in
theorem shapesearchref01_Valid.calls (k : Nat) (a0_0 : Int) (a0_1 : Int) (r : Bool) (w : World) (h : shapesearchref01_Valid.f k a0_0 a0_1 = some r) :
  Calls Try.prog 42 #[.agg #[.int .i64 a0_0,.int .i64 a0_1]] w fun e w'=>e = .returned (.bool r)∧Below w.heap.size w w':=by
 have hu36:=Try.underlying36
 have HB:=A_ (Below.refl w.heap.size w)
 have H : (if a0_0 ≥ 0 then (if a0_0 ≤ 2305843009213693952 then (if a0_1 ≥ 1 then (if a0_1 ≤ 1152921504606846976 then ((shapesearchref01_common.f k a0_0 a0_1).bind fun t311=>(some (t311 == 1))) else (some false)) else (some false)) else (some false)) else (some false)) = some r:=h
 clear h
 by_cases c2 : a0_0 ≥ 0
 ·
  rw [if_pos c2] at H
  have c2b0 : decide (0 ≤ a0_0) = true:=decide_eq_true c2
  clear c2
  by_cases c3 : a0_0 ≤ 2305843009213693952
  ·
   rw [if_pos c3] at H
   have c3b0 : decide (a0_0 ≤ 2305843009213693952) = true:=decide_eq_true c3
   clear c3
   by_cases c4 : a0_1 ≥ 1
   ·
    rw [if_pos c4] at H
    have c4b0 : decide (1 ≤ a0_1) = true:=decide_eq_true c4
    clear c4
    by_cases c5 : a0_1 ≤ 1152921504606846976
    ·
     rw [if_pos c5] at H
     have c5b0 : decide (a0_1 ≤ 1152921504606846976) = true:=decide_eq_true c5
     clear c5
     replace H:=Option.bind_eq_some_iff.mp H
     obtain ⟨t311,A60,H⟩:=H
     replace H : (some (t311 == 1)) = some r:=H
     have A6:=A_ A60
     clear A60
     obtain rfl:=Option.some.inj H
     go_enter Try.func42,Try.ntmps42
     go_wp2_with (first|((with_reducible refine gate_dst (N:=1) rfl ?_);refine box_event ?hg (N:=1) ?hd (cs:=#[.int .i64 a0_0,.int .i64 a0_1]) (t:=36) ?hr ?_;(case hd=>rfl);(case hg=>rfl);(case hr=>first|(go_simp;done)|(go_simp;rfl));intro gb310 hg w7 hbox hb;have n0_:=A_ (below_step (by repeat (first|(with_reducible first|exact HB.out|apply ba|apply bb|apply bc)|exact HB.out)) hb);have n1_:=A_ (hbox);have n2_:=A_ ((by rw [hg];exact (below_size (by repeat (first|(with_reducible first|exact HB.out|apply ba|apply bb|apply bc)|exact HB.out))) : w.heap.size ≤ gb310));have n3_:=A_ ((by rw [hg];exact (below_size (by repeat (first|(with_reducible first|exact HB.out|apply ba|apply bb|apply bc)|exact HB.out))) : w.heap.size ≤ gb310));clear HB;have HB:=n0_;have BK310:=n1_;have GW310:=n2_;have GE310:=n3_;clear n0_ n1_ n2_ n3_;clear hb hbox hg;have hcz8_0 : w7.cell? ⟨gb310,0,none⟩ = some (.int .i64 a0_0):=(blk_cell BK310.out 0).trans rfl;have hcz8_1 : w7.cell? ⟨gb310,1,none⟩ = some (.int .i64 a0_1):=(blk_cell BK310.out 1).trans rfl;have hfz8_0:=blk_frozen BK310.out 0;have hfz8_1:=blk_frozen BK310.out 1)|(go_at_call 64;(with_reducible refine (shapesearchref01_common.calls k a0_0 a0_1 t311 _ A6.out).mono ?_);rintro e w' ⟨rfl,⟨nd,rfl⟩⟩))
     go_ret
     exact ⟨by first|rfl|(simp [errW_none,errW_some] <;> rfl)|(simp [*,errW_none,errW_some] <;> rfl),by repeat (first|(with_reducible first|exact HB.out|apply ba|apply bb|apply bc|refine below_set ?_ GE310.out)|exact HB.out)⟩
    ·
     rw [if_neg c5] at H
     have c5b0 : decide (a0_1 ≤ 1152921504606846976) = false:=decide_eq_false c5
     clear c5
     obtain rfl:=Option.some.inj H
     go_enter Try.func42,Try.ntmps42
     go_wp2_with (first|((with_reducible refine gate_dst (N:=1) rfl ?_);refine box_event ?hg (N:=1) ?hd (cs:=#[.int .i64 a0_0,.int .i64 a0_1]) (t:=36) ?hr ?_;(case hd=>rfl);(case hg=>rfl);(case hr=>first|(go_simp;done)|(go_simp;rfl));intro gb310 hg w9 hbox hb;have n0_:=A_ (below_step (by repeat (first|(with_reducible first|exact HB.out|apply ba|apply bb|apply bc)|exact HB.out)) hb);have n1_:=A_ (hbox);have n2_:=A_ ((by rw [hg];exact (below_size (by repeat (first|(with_reducible first|exact HB.out|apply ba|apply bb|apply bc)|exact HB.out))) : w.heap.size ≤ gb310));have n3_:=A_ ((by rw [hg];exact (below_size (by repeat (first|(with_reducible first|exact HB.out|apply ba|apply bb|apply bc)|exact HB.out))) : w.heap.size ≤ gb310));clear HB;have HB:=n0_;have BK310:=n1_;have GW310:=n2_;have GE310:=n3_;clear n0_ n1_ n2_ n3_;clear hb hbox hg;have hcz10_0 : w9.cell? ⟨gb310,0,none⟩ = some (.int .i64 a0_0):=(blk_cell BK310.out 0).trans rfl;have hcz10_1 : w9.cell? ⟨gb310,1,none⟩ = some (.int .i64 a0_1):=(blk_cell BK310.out 1).trans rfl;have hfz10_0:=blk_frozen BK310.out 0;have hfz10_1:=blk_frozen BK310.out 1))
     go_ret
     exact ⟨by first|rfl|(simp [errW_none,errW_some] <;> rfl)|(simp [*,errW_none,errW_some] <;> rfl),by repeat (first|(with_reducible first|exact HB.out|apply ba|apply bb|apply bc|refine below_set ?_ GE310.out)|exact HB.out)⟩
   ·
    rw [if_neg c4] at H
    have c4b0 : decide (1 ≤ a0_1) = false:=decide_eq_false c4
    clear c4
    obtain rfl:=Option.some.inj H
    go_enter Try.func42,Try.ntmps42
    go_wp2_with (first|((with_reducible refine gate_dst (N:=1) rfl ?_);refine box_event ?hg (N:=1) ?hd (cs:=#[.int .i64 a0_0,.int .i64 a0_1]) (t:=36) ?hr ?_;(case hd=>rfl);(case hg=>rfl);(case hr=>first|(go_simp;done)|(go_simp;rfl));intro gb310 hg w11 hbox hb;have n0_:=A_ (below_step (by repeat (first|(with_reducible first|exact HB.out|apply ba|apply bb|apply bc)|exact HB.out)) hb);have n1_:=A_ (hbox);have n2_:=A_ ((by rw [hg];exact (below_size (by repeat (first|(with_reducible first|exact HB.out|apply ba|apply bb|apply bc)|exact HB.out))) : w.heap.size ≤ gb310));have n3_:=A_ ((by rw [hg];exact (below_size (by repeat (first|(with_reducible first|exact HB.out|apply ba|apply bb|apply bc)|exact HB.out))) : w.heap.size ≤ gb310));clear HB;have HB:=n0_;have BK310:=n1_;have GW310:=n2_;have GE310:=n3_;clear n0_ n1_ n2_ n3_;clear hb hbox hg;have hcz12_0 : w11.cell? ⟨gb310,0,none⟩ = some (.int .i64 a0_0):=(blk_cell BK310.out 0).trans rfl;have hcz12_1 : w11.cell? ⟨gb310,1,none⟩ = some (.int .i64 a0_1):=(blk_cell BK310.out 1).trans rfl;have hfz12_0:=blk_frozen BK310.out 0;have hfz12_1:=blk_frozen BK310.out 1))
    go_ret
    exact ⟨by first|rfl|(simp [errW_none,errW_some] <;> rfl)|(simp [*,errW_none,errW_some] <;> rfl),by repeat (first|(with_reducible first|exact HB.out|apply ba|apply bb|apply bc|refine below_set ?_ GE310.out)|exact HB.out)⟩
  ·
   rw [if_neg c3] at H
   have c3b0 : decide (a0_0 ≤ 2305843009213693952) = false:=decide_eq_false c3
   clear c3
   obtain rfl:=Option.some.inj H
   go_enter Try.func42,Try.ntmps42
   go_wp2_with (first|((with_reducible refine gate_dst (N:=1) rfl ?_);refine box_event ?hg (N:=1) ?hd (cs:=#[.int .i64 a0_0,.int .i64 a0_1]) (t:=36) ?hr ?_;(case hd=>rfl);(case hg=>rfl);(case hr=>first|(go_simp;done)|(go_simp;rfl));intro gb310 hg w13 hbox hb;have n0_:=A_ (below_step (by repeat (first|(with_reducible first|exact HB.out|apply ba|apply bb|apply bc)|exact HB.out)) hb);have n1_:=A_ (hbox);have n2_:=A_ ((by rw [hg];exact (below_size (by repeat (first|(with_reducible first|exact HB.out|apply ba|apply bb|apply bc)|exact HB.out))) : w.heap.size ≤ gb310));have n3_:=A_ ((by rw [hg];exact (below_size (by repeat (first|(with_reducible first|exact HB.out|apply ba|apply bb|apply bc)|exact HB.out))) : w.heap.size ≤ gb310));clear HB;have HB:=n0_;have BK310:=n1_;have GW310:=n2_;have GE310:=n3_;clear n0_ n1_ n2_ n3_;clear hb hbox hg;have hcz14_0 : w13.cell? ⟨gb310,0,none⟩ = some (.int .i64 a0_0):=(blk_cell BK310.out 0).trans rfl;have hcz14_1 : w13.cell? ⟨gb310,1,none⟩ = some (.int .i64 a0_1):=(blk_cell BK310.out 1).trans rfl;have hfz14_0:=blk_frozen BK310.out 0;have hfz14_1:=blk_frozen BK310.out 1))
   go_ret
   exact ⟨by first|rfl|(simp [errW_none,errW_some] <;> rfl)|(simp [*,errW_none,errW_some] <;> rfl),by repeat (first|(with_reducible first|exact HB.out|apply ba|apply bb|apply bc|refine below_set ?_ GE310.out)|exact HB.out)⟩
 ·
  rw [if_neg c2] at H
  have c2b0 : decide (0 ≤ a0_0) = false:=decide_eq_false c2
  clear c2
  obtain rfl:=Option.some.inj H
  go_enter Try.func42,Try.ntmps42
  go_wp2_with (first|((with_reducible refine gate_dst (N:=1) rfl ?_);refine box_event ?hg (N:=1) ?hd (cs:=#[.int .i64 a0_0,.int .i64 a0_1]) (t:=36) ?hr ?_;(case hd=>rfl);(case hg=>rfl);(case hr=>first|(go_simp;done)|(go_simp;rfl));intro gb310 hg w15 hbox hb;have n0_:=A_ (below_step (by repeat (first|(with_reducible first|exact HB.out|apply ba|apply bb|apply bc)|exact HB.out)) hb);have n1_:=A_ (hbox);have n2_:=A_ ((by rw [hg];exact (below_size (by repeat (first|(with_reducible first|exact HB.out|apply ba|apply bb|apply bc)|exact HB.out))) : w.heap.size ≤ gb310));have n3_:=A_ ((by rw [hg];exact (below_size (by repeat (first|(with_reducible first|exact HB.out|apply ba|apply bb|apply bc)|exact HB.out))) : w.heap.size ≤ gb310));clear HB;have HB:=n0_;have BK310:=n1_;have GW310:=n2_;have GE310:=n3_;clear n0_ n1_ n2_ n3_;clear hb hbox hg;have hcz16_0 : w15.cell? ⟨gb310,0,none⟩ = some (.int .i64 a0_0):=(blk_cell BK310.out 0).trans rfl;have hcz16_1 : w15.cell? ⟨gb310,1,none⟩ = some (.int .i64 a0_1):=(blk_cell BK310.out 1).trans rfl;have hfz16_0:=blk_frozen BK310.out 0;have hfz16_1:=blk_frozen BK310.out 1))
  go_ret
  exact ⟨by first|rfl|(simp [errW_none,errW_some] <;> rfl)|(simp [*,errW_none,errW_some] <;> rfl),by repeat (first|(with_reducible first|exact HB.out|apply ba|apply bb|apply bc|refine below_set ?_ GE310.out)|exact HB.out)⟩

/-! ### shapesearchref01_Make: function 65 -/
def shapesearchref01_Make.j0 : Nat → Int → Int → Bool → Option (Int × Int × Int)
 | 0,_,_,_=>none
 | k + 1,x0,x1,x13=>if x13 = true then (some (0,0,1)) else ((shapesearchref01_common.f k x0 x1).bind fun t313=>(if t313 = 0 then (none) else ((shapesearchref01_Valid.f k (wrap64 (Int.tdiv x0 t313)) (wrap64 (Int.tdiv x1 t313))).bind fun t315=>(if t315 = true then (some (wrap64 (Int.tdiv x0 t313),wrap64 (Int.tdiv x1 t313),0)) else (some (0,0,1))))))
def shapesearchref01_Make.f (k : Nat) (a0 : Int) (a1 : Int) : Option (Int × Int × Int):=if a0 < 0 then (shapesearchref01_Make.j0 k a0 a1 true) else (shapesearchref01_Make.j0 k a0 a1 (decide (a1 < 1)))
theorem shapesearchref01_Make.mono_l : ∀ k,(∀ y0 y1 y2,LeO (shapesearchref01_Make.j0 k y0 y1 y2) (shapesearchref01_Make.j0 (k + 1) y0 y1 y2))
 | 0=>fun _ _ _ r h=>by simp [shapesearchref01_Make.j0] at h
 | k + 1=>by
  have ih0:=shapesearchref01_Make.mono_l k
  ·
   intro y0 y1 y2
   unfold shapesearchref01_Make.j0
   repeat' first
   | (with_reducible exact ih0 _ _ _)
   | (with_reducible exact shapesearchref01_Valid.mono _ _ _)
   | (with_reducible exact shapesearchref01_common.mono _ _ _)
   | (with_reducible exact LeO.refl _)
   | (with_reducible exact LeO.none _)
   | (with_reducible refine LeO.ite ?_ ?_)
   | (with_reducible refine LeO.bind ?_ (fun _=>?_))
   | exact ih0 _ _ _
   | exact shapesearchref01_Valid.mono _ _ _
   | exact shapesearchref01_common.mono _ _ _
   | exact LeO.none _
   | refine LeO.ite ?_ ?_
   | refine LeO.bind ?_ (fun _=>?_)
theorem shapesearchref01_Make.mono : ∀ a0 a1 k,LeO (shapesearchref01_Make.f k a0 a1) (shapesearchref01_Make.f (k + 1) a0 a1):=by
 intro a0 a1 k
 have ih0:=shapesearchref01_Make.mono_l k
 unfold shapesearchref01_Make.f
 repeat' first
   | (with_reducible exact ih0 _ _ _)
   | (with_reducible exact shapesearchref01_Valid.mono _ _ _)
   | (with_reducible exact shapesearchref01_common.mono _ _ _)
   | (with_reducible exact LeO.refl _)
   | (with_reducible exact LeO.none _)
   | (with_reducible refine LeO.ite ?_ ?_)
   | (with_reducible refine LeO.bind ?_ (fun _=>?_))
   | exact ih0 _ _ _
   | exact shapesearchref01_Valid.mono _ _ _
   | exact shapesearchref01_common.mono _ _ _
   | exact LeO.none _
   | refine LeO.ite ?_ ?_
   | refine LeO.bind ?_ (fun _=>?_)
def shapesearchref01_Make.T4 : Bool × List (List Nat × List Nat):=(true,[([],[]),([],[]),([0,1],[0,1]),([],[]),([],[]),([3,4],[3,4]),([2,5],[2,5]),([],[]),([7,6,0,1,2,3,4,5,6,7],[6,7])])
def shapesearchref01_Make.B4 : List Nat:=[0,0,3,0,0,24,63,0,255]
theorem shapesearchref01_Make.tab4 : rtab .any (opsOf Try.f65 4) = shapesearchref01_Make.T4:=by kernel_rfl
theorem shapesearchref01_Make.bits4 : waitsOk shapesearchref01_Make.T4.2 shapesearchref01_Make.B4 = true:=by kernel_rfl
set_option maxHeartbeats 8000000 in
set_option maxRecDepth 100000 in
theorem shapesearchref01_Make.calls (k : Nat) (a0 : Int) (a1 : Int) (r1 : Int) (r2 : Int) (r3 : Int) (w : World) (h : shapesearchref01_Make.f k a0 a1 = some (r1,r2,r3)) :
  Calls Try.prog 65 #[.int .i64 a0,.int .i64 a1] w fun e w'=>e = .returned (.tuple #[.agg #[.int .i64 r1,.int .i64 r2],.int .i64 r3])∧Below w.heap.size w w':=by
 have hu36:=Try.underlying36
 have HB:=A_ (Below.refl w.heap.size w)
 have H : (if a0 < 0 then (shapesearchref01_Make.j0 k a0 a1 true) else (shapesearchref01_Make.j0 k a0 a1 (decide (a1 < 1)))) = some (r1,r2,r3):=h
 clear h
 have HC3:=A_ H
 clear H
 go_enter Try.func65,Try.ntmps65
 go_upto_region 1 with (first|((with_reducible refine gate_dst (N:=4) rfl ?_);refine box_event ?hg (N:=4) ?hd (cs:=#[.int .i64 0,.int .i64 0]) (t:=36) ?hr ?_;(case hd=>rfl);(case hg=>rfl);(case hr=>first|(go_simp;done)|(go_simp;rfl));intro gb312 hg w4 hbox hb;have n0_:=A_ (below_step (by repeat (first|(with_reducible first|exact HB.out|apply ba|apply bb|apply bc)|exact HB.out)) hb);have n1_:=A_ (hbox);have n2_:=A_ ((by rw [hg];exact (below_size (by repeat (first|(with_reducible first|exact HB.out|apply ba|apply bb|apply bc)|exact HB.out))) : w.heap.size ≤ gb312));have n3_:=A_ ((by rw [hg];exact (below_size (by repeat (first|(with_reducible first|exact HB.out|apply ba|apply bb|apply bc)|exact HB.out))) : w.heap.size ≤ gb312));clear HB;have HB:=n0_;have BK312:=n1_;have GW312:=n2_;have GE312:=n3_;clear n0_ n1_ n2_ n3_;clear hb hbox hg))
 (try simp only [Act.put,List.setIfInBounds_toArray,List.set_cons_zero,List.set_cons_succ])
 go_cut [13] (fun v13 wc=>∃ (kq : Nat) (x13_2 : Bool),v13 = .bool x13_2∧Aside0 (shapesearchref01_Make.j0 kq a0 a1 x13_2 = some (r1,r2,r3))∧Aside0 (kq ≤ k)∧Aside0 (wc.heap[gb312]? = some (.cells #[.int .i64 0,.int .i64 0] 36 (0,0)))∧Aside0 (Below w.heap.size w wc))
 case first =>
  have H:=HC3.out
  clear HC3
  by_cases c5 : a0 < 0
  ·
   rw [if_pos c5] at H
   have c5b0 : decide (a0 < 0) = true:=decide_eq_true c5
   clear c5
   (first|rw [c5b0]|(simp only [i64_w,i32_w];rw [c5b0])|skip)
   have H':=A_ H
   clear H
   go_wp2
   go_meet
   case rel=>exact ⟨_,(true),(by first|rfl|(simp;done)|(simp [*];done)),H',⟨by first|omega|exact Nat.le_refl _⟩,⟨by (with_reducible repeat (first|refine blk_drewN ?_ _|refine blk_drew ?_|refine blk_alloc ?_ _));exact BK312.out⟩,⟨by repeat (first|(with_reducible first|exact HB.out|apply ba|apply bb|apply bc|refine below_set ?_ GE312.out)|exact HB.out)⟩⟩
  ·
   rw [if_neg c5] at H
   have c5b0 : decide (a0 < 0) = false:=decide_eq_false c5
   clear c5
   (first|rw [c5b0]|(simp only [i64_w,i32_w];rw [c5b0])|skip)
   have H':=A_ H
   clear H
   go_wp2
   go_meet
   case rel=>exact ⟨_,(decide (a1 < 1)),(by first|rfl|(simp;done)|(simp [*];done)),H',⟨by first|omega|exact Nat.le_refl _⟩,⟨by (with_reducible repeat (first|refine blk_drewN ?_ _|refine blk_drew ?_|refine blk_alloc ?_ _));exact BK312.out⟩,⟨by repeat (first|(with_reducible first|exact HB.out|apply ba|apply bb|apply bc|refine below_set ?_ GE312.out)|exact HB.out)⟩⟩
 case rest =>
  clear HC3
  try clear p2
  try clear c5
  try clear c5b0
  obtain ⟨kq,x13_2,rfl,HA,HJ2,BK312,HB⟩:=hcut
  cases kq with
  | zero=>exact absurd HA.out (by simp [shapesearchref01_Make.j0])
  | succ kj2 =>
   have H:=HA.out
   clear HA
   simp only [shapesearchref01_Make.j0] at H
   by_cases c6 : x13_2 = true
   ·
    subst c6
    have H1 : (some (0,0,1)) = some (r1,r2,r3):=by rw [if_pos rfl] at H;exact H
    clear H
    have H:=H1
    clear H1
    simp only [Option.some.injEq,Prod.mk.injEq] at H
    obtain ⟨rfl,rfl,rfl⟩:=H
    have hcz7_0 : wc.cell? ⟨gb312,0,none⟩ = some (.int .i64 0):=(blk_cell BK312.out 0).trans rfl
    have hcz7_1 : wc.cell? ⟨gb312,1,none⟩ = some (.int .i64 0):=(blk_cell BK312.out 1).trans rfl
    have hfz7_0:=blk_frozen BK312.out 0
    have hfz7_1:=blk_frozen BK312.out 1
    go_wp2
    refine bodyPost_ret (results_ct rfl _ _ gb312 36 #[.int .i64 0,.int .i64 0] (0,0) _ rfl (by (with_reducible repeat (first|refine blk_drewN ?_ _|refine blk_drew ?_|refine blk_alloc ?_ _));refine blk_put (cs:=#[.int .i64 0,.int .i64 0]) ?_ 1 _ rfl;(with_reducible repeat (first|refine blk_drewN ?_ _|refine blk_drew ?_|refine blk_alloc ?_ _));refine blk_put (cs:=#[.int .i64 0,.int .i64 0]) ?_ 0 _ rfl;(with_reducible repeat (first|refine blk_drewN ?_ _|refine blk_drew ?_|refine blk_alloc ?_ _));exact BK312.out) Try.underlying36 rfl (by kernel_rfl)) rfl ?_
    exact ⟨by first|rfl|(simp [errW_none,errW_some] <;> rfl)|(simp [*,errW_none,errW_some] <;> rfl),by repeat (first|(with_reducible first|exact HB.out|apply ba|apply bb|apply bc|refine below_set ?_ GE312.out)|exact HB.out)⟩
   ·
    replace c6:=Bool.eq_false_iff.mpr c6
    subst c6
    have H1 : ((shapesearchref01_common.f kj2 a0 a1).bind fun t313=>(if t313 = 0 then (none) else ((shapesearchref01_Valid.f kj2 (wrap64 (Int.tdiv a0 t313)) (wrap64 (Int.tdiv a1 t313))).bind fun t315=>(if t315 = true then (some (wrap64 (Int.tdiv a0 t313),wrap64 (Int.tdiv a1 t313),0)) else (some (0,0,1)))))) = some (r1,r2,r3):=by rw [if_neg (show ¬ (false = true) by decide)] at H;exact H
    clear H
    have H:=H1
    clear H1
    replace H:=Option.bind_eq_some_iff.mp H
    obtain ⟨t313,A80,H⟩:=H
    replace H : (if t313 = 0 then (none) else ((shapesearchref01_Valid.f kj2 (wrap64 (Int.tdiv a0 t313)) (wrap64 (Int.tdiv a1 t313))).bind fun t315=>(if t315 = true then (some (wrap64 (Int.tdiv a0 t313),wrap64 (Int.tdiv a1 t313),0)) else (some (0,0,1))))) = some (r1,r2,r3):=H
    have A8:=A_ A80
    clear A80
    by_cases c9 : t313 = 0
    ·
     rw [if_pos c9] at H
     exact absurd H (by simp)
    ·
     rw [if_neg c9] at H
     have c9b0 : (t313 == 0) = false:=beq_eq_false_iff_ne.mpr c9
     have c9b1 : (t313 != 0) = true:=bne_iff_ne.mpr c9
     replace H:=Option.bind_eq_some_iff.mp H
     obtain ⟨t315,A100,H⟩:=H
     replace H : (if t315 = true then (some (wrap64 (Int.tdiv a0 t313),wrap64 (Int.tdiv a1 t313),0)) else (some (0,0,1))) = some (r1,r2,r3):=H
     have A10:=A_ A100
     clear A100
     by_cases c11 : t315 = true
     ·
      subst c11
      have H1 : (some (wrap64 (Int.tdiv a0 t313),wrap64 (Int.tdiv a1 t313),0)) = some (r1,r2,r3):=by rw [if_pos rfl] at H;exact H
      clear H
      have H:=H1
      clear H1
      simp only [Option.some.injEq,Prod.mk.injEq] at H
      obtain ⟨rfl,rfl,rfl⟩:=H
      try go_wp2_with (first|((with_reducible refine gate_callee (f:=64) rfl ?_);refine goesL_ (some 17) rfl rfl Try.func64 (by kernel_rfl) rfl #[.int .i64 a0,.int .i64 a1] rfl (by (try simp only [List.map_toArray,List.map_cons,List.map_nil]);first|done|rfl|(simp only [List.length_drop,List.length_take];rfl)) ?_;(with_reducible refine (shapesearchref01_common.calls kj2 a0 a1 t313 _ A8.out).mono ?_);rintro e w' ⟨rfl,⟨nd,rfl⟩⟩;refine ⟨_,rfl,?_⟩;(try (rw [drewN_self wc];generalize hq_ : World.drewN wc _ = wc;have n0_ : Aside0 (wc.heap[gb312]? = some (.cells #[.int .i64 0,.int .i64 0] 36 (0,0))):=⟨by rw [← hq_];exact (by (with_reducible repeat (first|refine blk_drewN ?_ _|refine blk_drew ?_|refine blk_alloc ?_ _));exact BK312.out)⟩;have n1_ : Aside0 (Below w.heap.size w wc):=⟨by rw [← hq_];exact (by repeat (first|(with_reducible first|exact HB.out|apply ba|apply bb|apply bc|refine below_set ?_ GE312.out)|exact HB.out))⟩;clear BK312 HB hq_;have BK312:=n0_;have HB:=n1_;clear n0_ n1_))))
      (try (rw [drewN_self wc];generalize hq_ : World.drewN wc _ = wc;have n0_ : Aside0 (wc.heap[gb312]? = some (.cells #[.int .i64 0,.int .i64 0] 36 (0,0))):=⟨by rw [← hq_];exact (by (with_reducible repeat (first|refine blk_drewN ?_ _|refine blk_drew ?_|refine blk_alloc ?_ _));exact BK312.out)⟩;have n1_ : Aside0 (Below w.heap.size w wc):=⟨by rw [← hq_];exact (by repeat (first|(with_reducible first|exact HB.out|apply ba|apply bb|apply bc|refine below_set ?_ GE312.out)|exact HB.out))⟩;clear BK312 HB hq_;have BK312:=n0_;have HB:=n1_;clear n0_ n1_))
      have n0_:=A_ (blk_drew BK312.out)
      have n1_:=A_ (below_drew1 HB.out)
      clear BK312
      clear HB
      have BK312:=n0_
      have HB:=n1_
      clear n0_ n1_
      refine start_ (n:=9) (S:=fun w'=>True) (ds:=[]) #[false,false,false,false,false,false,false,false,false] (by kernel_rfl) rfl rfl trivial (fun hHeld=>?_);refine with_tabW shapesearchref01_Make.tab4 shapesearchref01_Make.bits4 (fun HT_ HW_=>?_)
      generalize wc.drew = w12 at BK312 HB hHeld ⊢
      refine pure_ (i:=0) (N:=some 18) (v:=?_) (a':=?_) #[true,false,false,false,false,false,false,false,false] rfl rfl (any_of HT_.out (by kernel_rfl)) (fun _ _ _ h=>h) (Or.inl ⟨by rfl,?_⟩) ?_ ?_
      rotate_left
      ·
       intro w'
       go_simp
       with_reducible rfl
      rotate_left
      ·
       simp only [Act.put,sa,sb,sc,i64_w,i32_w]
       rfl
      refine pure_ (i:=1) (N:=some 19) (v:=?_) (a':=?_) #[true,true,false,false,false,false,false,false,false] rfl rfl (any_of HT_.out (by kernel_rfl)) (fun _ _ _ h=>h) (Or.inl ⟨by rfl,?_⟩) ?_ ?_
      rotate_left
      ·
       intro w'
       go_simp
       with_reducible rfl
      rotate_left
      ·
       simp only [Act.put,sa,sb,sc,i64_w,i32_w]
       rfl
      refine pure_ (i:=2) (N:=some 20) (v:=?_) (a':=?_) #[true,true,true,false,false,false,false,false,false] rfl rfl (any_of HT_.out (by kernel_rfl)) (fun _ _ _ h=>h) (Or.inl ⟨by rfl,?_⟩) ?_ ?_
      rotate_left
      ·
       intro w'
       go_simp
       with_reducible rfl
      rotate_left
      ·
       simp only [Act.put,sa,sb,sc,i64_w,i32_w]
       rfl
      refine pure_ (i:=3) (N:=some 21) (v:=?_) (a':=?_) #[true,true,true,true,false,false,false,false,false] rfl rfl (any_of HT_.out (by kernel_rfl)) (fun _ _ _ h=>h) (Or.inl ⟨by rfl,?_⟩) ?_ ?_
      rotate_left
      ·
       intro w'
       go_simp
       with_reducible rfl
      rotate_left
      ·
       simp only [Act.put,sa,sb,sc,i64_w,i32_w]
       rfl
      refine pure_ (i:=4) (N:=some 22) (v:=?_) (a':=?_) #[true,true,true,true,true,false,false,false,false] rfl rfl (any_of HT_.out (by kernel_rfl)) (fun _ _ _ h=>h) (Or.inl ⟨by rfl,?_⟩) ?_ ?_
      rotate_left
      ·
       intro w'
       go_simp
       with_reducible rfl
      rotate_left
      ·
       simp only [Act.put,sa,sb,sc,i64_w,i32_w]
       rfl
      refine pure_ (i:=5) (N:=some 23) (v:=?_) (a':=?_) #[true,true,true,true,true,true,false,false,false] rfl rfl (any_of HT_.out (by kernel_rfl)) (fun _ _ _ h=>h) (Or.inl ⟨by rfl,?_⟩) ?_ ?_
      rotate_left
      ·
       intro w'
       go_simp
       with_reducible rfl
      rotate_left
      ·
       simp only [Act.put,sa,sb,sc,i64_w,i32_w]
       rfl
      refine pure_ (i:=6) (N:=some 24) (v:=?_) (a':=?_) #[true,true,true,true,true,true,true,false,false] rfl rfl (any_of HT_.out (by kernel_rfl)) (fun _ _ _ h=>h) (Or.inl ⟨by rfl,?_⟩) ?_ ?_
      rotate_left
      ·
       intro w'
       go_simp
       with_reducible rfl
      rotate_left
      ·
       simp only [Act.put,sa,sb,sc,i64_w,i32_w]
       rfl
      refine one_ (i:=7) (N:=some 7) #[true,true,true,true,true,true,true,true,false] rfl rfl (one_of HT_.out (by kernel_rfl)) (by decide) (fun K hK=>?_)
      refine box_step ?hg (N:=7) ?hd (cs:=#[.int .i64 0,.int .i64 0]) (t:=36) ?hr ?_;(case hd=>rfl);(case hg=>rfl);(case hr=>first|(go_simp;done)|(go_simp;rfl))
      intro gb314 hg w13 hbox hb
      have n0_:=A_ (blk_below (g:=gb312) (o:=.cells #[.int .i64 0,.int .i64 0] 36 (0,0)) (by (with_reducible repeat (first|refine blk_drewN ?_ _|refine blk_drew ?_|refine blk_alloc ?_ _));exact BK312.out) hb)
      have n1_:=A_ (below_step (by repeat (first|(with_reducible first|exact HB.out|apply ba|apply bb|apply bc|refine below_set ?_ GE312.out)|exact HB.out)) hb)
      have n2_:=A_ (hbox)
      have n3_:=A_ ((by rw [hg];exact (below_size (by repeat (first|(with_reducible first|exact HB.out|apply ba|apply bb|apply bc|refine below_set ?_ GE312.out)|exact HB.out))) : w.heap.size ≤ gb314))
      have n4_:=A_ ((by rw [hg];exact (below_size (by repeat (first|(with_reducible first|exact HB.out|apply ba|apply bb|apply bc|refine below_set ?_ GE312.out)|exact HB.out))) : w.heap.size ≤ gb314))
      have n5_:=A_ ((by rw [hg];exact Nat.ne_of_lt (blk_lt (g:=gb312) (o:=.cells #[.int .i64 0,.int .i64 0] 36 (0,0)) (by (with_reducible repeat (first|refine blk_drewN ?_ _|refine blk_drew ?_|refine blk_alloc ?_ _));exact BK312.out)) : gb312≠gb314))
      have n6_:=A_ ((by rw [hg];exact Nat.ne_of_gt (blk_lt (g:=gb312) (o:=.cells #[.int .i64 0,.int .i64 0] 36 (0,0)) (by (with_reducible repeat (first|refine blk_drewN ?_ _|refine blk_drew ?_|refine blk_alloc ?_ _));exact BK312.out)) : gb314≠gb312))
      clear BK312
      clear HB
      have BK312:=n0_
      have HB:=n1_
      have BK314:=n2_
      have GW314:=n3_
      have GE314:=n4_
      have NB312_314:=n5_
      have NB314_312:=n6_
      clear n0_ n1_ n2_ n3_ n4_ n5_ n6_
      clear hb hbox hg
      refine hK.out _ _ trivial (fun hHeld=>?_)
      clear hK K
      refine norm_ (a':=?_) ?_ ?_
      rotate_left
      ·
       show Act.put _ (some 7) _ = _
       simp only [Act.put,sa,sb,sc,i64_w,i32_w]
       rfl
      refine one_ (i:=8) (N:=none) #[true,true,true,true,true,true,true,true,true] rfl rfl (one_of HT_.out (by kernel_rfl)) (by decide) (fun K hK=>?_)
      have hs14 : w13.cell? ⟨gb314,0,none⟩ = some (.int .i64 0):=(blk_cell BK314.out 0).trans rfl
      have hfs14:=blk_frozen BK314.out 0
      have hns14_0:=NB312_314.out
      have hms14_0:=NB314_312.out
      have hs15 : w13.cell? ⟨gb314,1,none⟩ = some (.int .i64 0):=(blk_cell BK314.out 1).trans rfl
      have hfs15:=blk_frozen BK314.out 1
      have hns15_0:=NB312_314.out
      have hms15_0:=NB314_312.out
      refine skip_ (w1:=?_) (by rfl) rfl ?_ ?_
      rotate_left
      ·
       go_simp
       rfl
      refine hK.out _ _ trivial (fun hHeld=>?_)
      clear hK K
      refine done_ (done_of HT_.out (by kernel_rfl)) ?_
      have hnb16:=NB314_312.out
      have hnc16:=NB312_314.out
      have hcz17_0 : w13.cell? ⟨gb314,0,none⟩ = some (.int .i64 0):=(blk_cell BK314.out 0).trans rfl
      have hcz17_1 : w13.cell? ⟨gb314,1,none⟩ = some (.int .i64 0):=(blk_cell BK314.out 1).trans rfl
      have hfz17_0:=blk_frozen BK314.out 0
      have hfz17_1:=blk_frozen BK314.out 1
      try go_wp2_with (first|((with_reducible refine gate_callee (f:=42) rfl ?_);refine goesL_ (some 26) rfl rfl Try.func42 (by kernel_rfl) rfl #[.agg #[.int .i64 (wrap64 (Int.tdiv a0 t313)),.int .i64 (wrap64 (Int.tdiv a1 t313))]] rfl (by (try simp only [List.map_toArray,List.map_cons,List.map_nil]);first|done|rfl|(simp only [List.length_drop,List.length_take];rfl)) ?_;(with_reducible refine (shapesearchref01_Valid.calls kj2 (wrap64 (Int.tdiv a0 t313)) (wrap64 (Int.tdiv a1 t313)) true _ A10.out).mono ?_);rintro e w18 ⟨rfl,hb⟩;refine ⟨_,rfl,?_⟩;have n0_:=A_ (blk_below (g:=gb312) (o:=.cells #[.int .i64 0,.int .i64 0] 36 (0,0)) (by (with_reducible repeat (first|refine blk_drewN ?_ _|refine blk_drew ?_|refine blk_alloc ?_ _));refine blk_far ?_ NB312_314.out _;(with_reducible repeat (first|refine blk_drewN ?_ _|refine blk_drew ?_|refine blk_alloc ?_ _));refine blk_far ?_ NB312_314.out _;(with_reducible repeat (first|refine blk_drewN ?_ _|refine blk_drew ?_|refine blk_alloc ?_ _));exact BK312.out) hb);have n1_:=A_ (blk_below (g:=gb314) (o:=.cells #[.int .i64 (wrap64 (Int.tdiv a0 t313)),.int .i64 (wrap64 (Int.tdiv a1 t313))] 36 (0,0)) (by (with_reducible repeat (first|refine blk_drewN ?_ _|refine blk_drew ?_|refine blk_alloc ?_ _));refine blk_put (cs:=#[.int .i64 (wrap64 (Int.tdiv a0 t313)),.int .i64 0]) ?_ 1 _ rfl;(with_reducible repeat (first|refine blk_drewN ?_ _|refine blk_drew ?_|refine blk_alloc ?_ _));refine blk_put (cs:=#[.int .i64 0,.int .i64 0]) ?_ 0 _ rfl;(with_reducible repeat (first|refine blk_drewN ?_ _|refine blk_drew ?_|refine blk_alloc ?_ _));exact BK314.out) hb);have n2_:=A_ (below_step (by repeat (first|(with_reducible first|exact HB.out|apply ba|apply bb|apply bc|refine below_set ?_ GE312.out|refine below_set ?_ GE314.out)|exact HB.out)) hb);clear BK312;clear BK314;clear HB;have BK312:=n0_;have BK314:=n1_;have HB:=n2_;clear n0_ n1_ n2_;(try clear hb);(try clear hb2);(try clear hk);(try clear hi);have hcz19_0 : w18.cell? ⟨gb314,0,none⟩ = some (.int .i64 (wrap64 (Int.tdiv a0 t313))):=(blk_cell BK314.out 0).trans rfl;have hcz19_1 : w18.cell? ⟨gb314,1,none⟩ = some (.int .i64 (wrap64 (Int.tdiv a1 t313))):=(blk_cell BK314.out 1).trans rfl;have hfz19_0:=blk_frozen BK314.out 0;have hfz19_1:=blk_frozen BK314.out 1;have hcz20_0 : w18.cell? ⟨gb312,0,none⟩ = some (.int .i64 0):=(blk_cell BK312.out 0).trans rfl;have hcz20_1 : w18.cell? ⟨gb312,1,none⟩ = some (.int .i64 0):=(blk_cell BK312.out 1).trans rfl;have hfz20_0:=blk_frozen BK312.out 0;have hfz20_1:=blk_frozen BK312.out 1))
      refine bodyPost_ret (results_ct rfl _ _ gb312 36 #[.int .i64 (wrap64 (Int.tdiv a0 t313)),.int .i64 (wrap64 (Int.tdiv a1 t313))] (0,0) _ rfl (by (with_reducible repeat (first|refine blk_drewN ?_ _|refine blk_drew ?_|refine blk_alloc ?_ _));refine blk_put (cs:=#[.int .i64 (wrap64 (Int.tdiv a0 t313)),.int .i64 0]) ?_ 1 _ rfl;(with_reducible repeat (first|refine blk_drewN ?_ _|refine blk_drew ?_|refine blk_alloc ?_ _));refine blk_put (cs:=#[.int .i64 0,.int .i64 0]) ?_ 0 _ rfl;(with_reducible repeat (first|refine blk_drewN ?_ _|refine blk_drew ?_|refine blk_alloc ?_ _));exact BK312.out) Try.underlying36 rfl (by kernel_rfl)) rfl ?_
      exact ⟨by first|rfl|(simp [errW_none,errW_some] <;> rfl)|(simp [*,errW_none,errW_some] <;> rfl),by repeat (first|(with_reducible first|exact HB.out|apply ba|apply bb|apply bc|refine below_set ?_ GE312.out|refine below_set ?_ GE314.out)|exact HB.out)⟩
     ·
      replace c11:=Bool.eq_false_iff.mpr c11
      subst c11
      have H1 : (some (0,0,1)) = some (r1,r2,r3):=by rw [if_neg (show ¬ (false = true) by decide)] at H;exact H
      clear H
      have H:=H1
      clear H1
      simp only [Option.some.injEq,Prod.mk.injEq] at H
      obtain ⟨rfl,rfl,rfl⟩:=H
      try go_wp2_with (first|((with_reducible refine gate_callee (f:=64) rfl ?_);refine goesL_ (some 17) rfl rfl Try.func64 (by kernel_rfl) rfl #[.int .i64 a0,.int .i64 a1] rfl (by (try simp only [List.map_toArray,List.map_cons,List.map_nil]);first|done|rfl|(simp only [List.length_drop,List.length_take];rfl)) ?_;(with_reducible refine (shapesearchref01_common.calls kj2 a0 a1 t313 _ A8.out).mono ?_);rintro e w' ⟨rfl,⟨nd,rfl⟩⟩;refine ⟨_,rfl,?_⟩;(try (rw [drewN_self wc];generalize hq_ : World.drewN wc _ = wc;have n0_ : Aside0 (wc.heap[gb312]? = some (.cells #[.int .i64 0,.int .i64 0] 36 (0,0))):=⟨by rw [← hq_];exact (by (with_reducible repeat (first|refine blk_drewN ?_ _|refine blk_drew ?_|refine blk_alloc ?_ _));exact BK312.out)⟩;have n1_ : Aside0 (Below w.heap.size w wc):=⟨by rw [← hq_];exact (by repeat (first|(with_reducible first|exact HB.out|apply ba|apply bb|apply bc|refine below_set ?_ GE312.out)|exact HB.out))⟩;clear BK312 HB hq_;have BK312:=n0_;have HB:=n1_;clear n0_ n1_))))
      (try (rw [drewN_self wc];generalize hq_ : World.drewN wc _ = wc;have n0_ : Aside0 (wc.heap[gb312]? = some (.cells #[.int .i64 0,.int .i64 0] 36 (0,0))):=⟨by rw [← hq_];exact (by (with_reducible repeat (first|refine blk_drewN ?_ _|refine blk_drew ?_|refine blk_alloc ?_ _));exact BK312.out)⟩;have n1_ : Aside0 (Below w.heap.size w wc):=⟨by rw [← hq_];exact (by repeat (first|(with_reducible first|exact HB.out|apply ba|apply bb|apply bc|refine below_set ?_ GE312.out)|exact HB.out))⟩;clear BK312 HB hq_;have BK312:=n0_;have HB:=n1_;clear n0_ n1_))
      have n0_:=A_ (blk_drew BK312.out)
      have n1_:=A_ (below_drew1 HB.out)
      clear BK312
      clear HB
      have BK312:=n0_
      have HB:=n1_
      clear n0_ n1_
      refine start_ (n:=9) (S:=fun w'=>True) (ds:=[]) #[false,false,false,false,false,false,false,false,false] (by kernel_rfl) rfl rfl trivial (fun hHeld=>?_);refine with_tabW shapesearchref01_Make.tab4 shapesearchref01_Make.bits4 (fun HT_ HW_=>?_)
      generalize wc.drew = w21 at BK312 HB hHeld ⊢
      refine pure_ (i:=0) (N:=some 18) (v:=?_) (a':=?_) #[true,false,false,false,false,false,false,false,false] rfl rfl (any_of HT_.out (by kernel_rfl)) (fun _ _ _ h=>h) (Or.inl ⟨by rfl,?_⟩) ?_ ?_
      rotate_left
      ·
       intro w'
       go_simp
       with_reducible rfl
      rotate_left
      ·
       simp only [Act.put,sa,sb,sc,i64_w,i32_w]
       rfl
      refine pure_ (i:=1) (N:=some 19) (v:=?_) (a':=?_) #[true,true,false,false,false,false,false,false,false] rfl rfl (any_of HT_.out (by kernel_rfl)) (fun _ _ _ h=>h) (Or.inl ⟨by rfl,?_⟩) ?_ ?_
      rotate_left
      ·
       intro w'
       go_simp
       with_reducible rfl
      rotate_left
      ·
       simp only [Act.put,sa,sb,sc,i64_w,i32_w]
       rfl
      refine pure_ (i:=2) (N:=some 20) (v:=?_) (a':=?_) #[true,true,true,false,false,false,false,false,false] rfl rfl (any_of HT_.out (by kernel_rfl)) (fun _ _ _ h=>h) (Or.inl ⟨by rfl,?_⟩) ?_ ?_
      rotate_left
      ·
       intro w'
       go_simp
       with_reducible rfl
      rotate_left
      ·
       simp only [Act.put,sa,sb,sc,i64_w,i32_w]
       rfl
      refine pure_ (i:=3) (N:=some 21) (v:=?_) (a':=?_) #[true,true,true,true,false,false,false,false,false] rfl rfl (any_of HT_.out (by kernel_rfl)) (fun _ _ _ h=>h) (Or.inl ⟨by rfl,?_⟩) ?_ ?_
      rotate_left
      ·
       intro w'
       go_simp
       with_reducible rfl
      rotate_left
      ·
       simp only [Act.put,sa,sb,sc,i64_w,i32_w]
       rfl
      refine pure_ (i:=4) (N:=some 22) (v:=?_) (a':=?_) #[true,true,true,true,true,false,false,false,false] rfl rfl (any_of HT_.out (by kernel_rfl)) (fun _ _ _ h=>h) (Or.inl ⟨by rfl,?_⟩) ?_ ?_
      rotate_left
      ·
       intro w'
       go_simp
       with_reducible rfl
      rotate_left
      ·
       simp only [Act.put,sa,sb,sc,i64_w,i32_w]
       rfl
      refine pure_ (i:=5) (N:=some 23) (v:=?_) (a':=?_) #[true,true,true,true,true,true,false,false,false] rfl rfl (any_of HT_.out (by kernel_rfl)) (fun _ _ _ h=>h) (Or.inl ⟨by rfl,?_⟩) ?_ ?_
      rotate_left
      ·
       intro w'
       go_simp
       with_reducible rfl
      rotate_left
      ·
       simp only [Act.put,sa,sb,sc,i64_w,i32_w]
       rfl
      refine pure_ (i:=6) (N:=some 24) (v:=?_) (a':=?_) #[true,true,true,true,true,true,true,false,false] rfl rfl (any_of HT_.out (by kernel_rfl)) (fun _ _ _ h=>h) (Or.inl ⟨by rfl,?_⟩) ?_ ?_
      rotate_left
      ·
       intro w'
       go_simp
       with_reducible rfl
      rotate_left
      ·
       simp only [Act.put,sa,sb,sc,i64_w,i32_w]
       rfl
      refine one_ (i:=7) (N:=some 7) #[true,true,true,true,true,true,true,true,false] rfl rfl (one_of HT_.out (by kernel_rfl)) (by decide) (fun K hK=>?_)
      refine box_step ?hg (N:=7) ?hd (cs:=#[.int .i64 0,.int .i64 0]) (t:=36) ?hr ?_;(case hd=>rfl);(case hg=>rfl);(case hr=>first|(go_simp;done)|(go_simp;rfl))
      intro gb314 hg w22 hbox hb
      have n0_:=A_ (blk_below (g:=gb312) (o:=.cells #[.int .i64 0,.int .i64 0] 36 (0,0)) (by (with_reducible repeat (first|refine blk_drewN ?_ _|refine blk_drew ?_|refine blk_alloc ?_ _));exact BK312.out) hb)
      have n1_:=A_ (below_step (by repeat (first|(with_reducible first|exact HB.out|apply ba|apply bb|apply bc|refine below_set ?_ GE312.out)|exact HB.out)) hb)
      have n2_:=A_ (hbox)
      have n3_:=A_ ((by rw [hg];exact (below_size (by repeat (first|(with_reducible first|exact HB.out|apply ba|apply bb|apply bc|refine below_set ?_ GE312.out)|exact HB.out))) : w.heap.size ≤ gb314))
      have n4_:=A_ ((by rw [hg];exact (below_size (by repeat (first|(with_reducible first|exact HB.out|apply ba|apply bb|apply bc|refine below_set ?_ GE312.out)|exact HB.out))) : w.heap.size ≤ gb314))
      have n5_:=A_ ((by rw [hg];exact Nat.ne_of_lt (blk_lt (g:=gb312) (o:=.cells #[.int .i64 0,.int .i64 0] 36 (0,0)) (by (with_reducible repeat (first|refine blk_drewN ?_ _|refine blk_drew ?_|refine blk_alloc ?_ _));exact BK312.out)) : gb312≠gb314))
      have n6_:=A_ ((by rw [hg];exact Nat.ne_of_gt (blk_lt (g:=gb312) (o:=.cells #[.int .i64 0,.int .i64 0] 36 (0,0)) (by (with_reducible repeat (first|refine blk_drewN ?_ _|refine blk_drew ?_|refine blk_alloc ?_ _));exact BK312.out)) : gb314≠gb312))
      clear BK312
      clear HB
      have BK312:=n0_
      have HB:=n1_
      have BK314:=n2_
      have GW314:=n3_
      have GE314:=n4_
      have NB312_314:=n5_
      have NB314_312:=n6_
      clear n0_ n1_ n2_ n3_ n4_ n5_ n6_
      clear hb hbox hg
      refine hK.out _ _ trivial (fun hHeld=>?_)
      clear hK K
      refine norm_ (a':=?_) ?_ ?_
      rotate_left
      ·
       show Act.put _ (some 7) _ = _
       simp only [Act.put,sa,sb,sc,i64_w,i32_w]
       rfl
      refine one_ (i:=8) (N:=none) #[true,true,true,true,true,true,true,true,true] rfl rfl (one_of HT_.out (by kernel_rfl)) (by decide) (fun K hK=>?_)
      have hs23 : w22.cell? ⟨gb314,0,none⟩ = some (.int .i64 0):=(blk_cell BK314.out 0).trans rfl
      have hfs23:=blk_frozen BK314.out 0
      have hns23_0:=NB312_314.out
      have hms23_0:=NB314_312.out
      have hs24 : w22.cell? ⟨gb314,1,none⟩ = some (.int .i64 0):=(blk_cell BK314.out 1).trans rfl
      have hfs24:=blk_frozen BK314.out 1
      have hns24_0:=NB312_314.out
      have hms24_0:=NB314_312.out
      refine skip_ (w1:=?_) (by rfl) rfl ?_ ?_
      rotate_left
      ·
       go_simp
       rfl
      refine hK.out _ _ trivial (fun hHeld=>?_)
      clear hK K
      refine done_ (done_of HT_.out (by kernel_rfl)) ?_
      have hnb25:=NB314_312.out
      have hnc25:=NB312_314.out
      have hcz26_0 : w22.cell? ⟨gb314,0,none⟩ = some (.int .i64 0):=(blk_cell BK314.out 0).trans rfl
      have hcz26_1 : w22.cell? ⟨gb314,1,none⟩ = some (.int .i64 0):=(blk_cell BK314.out 1).trans rfl
      have hfz26_0:=blk_frozen BK314.out 0
      have hfz26_1:=blk_frozen BK314.out 1
      try go_wp2_with (first|((with_reducible refine gate_callee (f:=42) rfl ?_);refine goesL_ (some 26) rfl rfl Try.func42 (by kernel_rfl) rfl #[.agg #[.int .i64 (wrap64 (Int.tdiv a0 t313)),.int .i64 (wrap64 (Int.tdiv a1 t313))]] rfl (by (try simp only [List.map_toArray,List.map_cons,List.map_nil]);first|done|rfl|(simp only [List.length_drop,List.length_take];rfl)) ?_;(with_reducible refine (shapesearchref01_Valid.calls kj2 (wrap64 (Int.tdiv a0 t313)) (wrap64 (Int.tdiv a1 t313)) false _ A10.out).mono ?_);rintro e w27 ⟨rfl,hb⟩;refine ⟨_,rfl,?_⟩;have n0_:=A_ (blk_below (g:=gb312) (o:=.cells #[.int .i64 0,.int .i64 0] 36 (0,0)) (by (with_reducible repeat (first|refine blk_drewN ?_ _|refine blk_drew ?_|refine blk_alloc ?_ _));refine blk_far ?_ NB312_314.out _;(with_reducible repeat (first|refine blk_drewN ?_ _|refine blk_drew ?_|refine blk_alloc ?_ _));refine blk_far ?_ NB312_314.out _;(with_reducible repeat (first|refine blk_drewN ?_ _|refine blk_drew ?_|refine blk_alloc ?_ _));exact BK312.out) hb);have n1_:=A_ (blk_below (g:=gb314) (o:=.cells #[.int .i64 (wrap64 (Int.tdiv a0 t313)),.int .i64 (wrap64 (Int.tdiv a1 t313))] 36 (0,0)) (by (with_reducible repeat (first|refine blk_drewN ?_ _|refine blk_drew ?_|refine blk_alloc ?_ _));refine blk_put (cs:=#[.int .i64 (wrap64 (Int.tdiv a0 t313)),.int .i64 0]) ?_ 1 _ rfl;(with_reducible repeat (first|refine blk_drewN ?_ _|refine blk_drew ?_|refine blk_alloc ?_ _));refine blk_put (cs:=#[.int .i64 0,.int .i64 0]) ?_ 0 _ rfl;(with_reducible repeat (first|refine blk_drewN ?_ _|refine blk_drew ?_|refine blk_alloc ?_ _));exact BK314.out) hb);have n2_:=A_ (below_step (by repeat (first|(with_reducible first|exact HB.out|apply ba|apply bb|apply bc|refine below_set ?_ GE312.out|refine below_set ?_ GE314.out)|exact HB.out)) hb);clear BK312;clear BK314;clear HB;have BK312:=n0_;have BK314:=n1_;have HB:=n2_;clear n0_ n1_ n2_;(try clear hb);(try clear hb2);(try clear hk);(try clear hi);have hcz28_0 : w27.cell? ⟨gb312,0,none⟩ = some (.int .i64 0):=(blk_cell BK312.out 0).trans rfl;have hcz28_1 : w27.cell? ⟨gb312,1,none⟩ = some (.int .i64 0):=(blk_cell BK312.out 1).trans rfl;have hfz28_0:=blk_frozen BK312.out 0;have hfz28_1:=blk_frozen BK312.out 1))
      refine bodyPost_ret (results_ct rfl _ _ gb312 36 #[.int .i64 0,.int .i64 0] (0,0) _ rfl (by (with_reducible repeat (first|refine blk_drewN ?_ _|refine blk_drew ?_|refine blk_alloc ?_ _));refine blk_put (cs:=#[.int .i64 0,.int .i64 0]) ?_ 1 _ rfl;(with_reducible repeat (first|refine blk_drewN ?_ _|refine blk_drew ?_|refine blk_alloc ?_ _));refine blk_put (cs:=#[.int .i64 0,.int .i64 0]) ?_ 0 _ rfl;(with_reducible repeat (first|refine blk_drewN ?_ _|refine blk_drew ?_|refine blk_alloc ?_ _));exact BK312.out) Try.underlying36 rfl (by kernel_rfl)) rfl ?_
      exact ⟨by first|rfl|(simp [errW_none,errW_some] <;> rfl)|(simp [*,errW_none,errW_some] <;> rfl),by repeat (first|(with_reducible first|exact HB.out|apply ba|apply bb|apply bc|refine below_set ?_ GE312.out|refine below_set ?_ GE314.out)|exact HB.out)⟩

end Go.Proofs.Ytodipcfbgnljeaa.PChannelsGreatest
