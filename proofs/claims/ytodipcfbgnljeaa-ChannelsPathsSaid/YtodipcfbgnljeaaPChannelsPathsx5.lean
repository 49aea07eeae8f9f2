/- This file proves, function by function, what the Go functions that one law uses compute; most of it was printed by a program (wip/tools of this session, over the kit's print). -/
import Derived.Test.YtodipcfbgnljeaaPChannelsPathsx0
import Derived.Test.YtodipcfbgnljeaaPChannelsPathsx4
namespace Go.Proofs.Ytodipcfbgnljeaa.PChannelsPaths
open Go.RowKit Go.Proofs.YtodipcfbgnljeaaW.PrintWords Go.Proofs.YtodipcfbgnljeaaW.PrintLast Go.Proofs.YtodipcfbgnljeaaW.PrintMore
attribute [local go_sem] max2_int min2_int max_two min_two max_three min_three max_four min_four   -- for this text's walks alone
set_option linter.unusedVariables false
set_option linter.unusedSimpArgs false

/-! ### shapesearchref12_Two: function 57 -/
mutual
def shapesearchref12_Two.j0 : Nat → List Int → List Int → Int → Bool → Option (Int)
 | 0,_,_,_,_=>none
 | k + 1,x0,x1,x2,x24=>if x24 = true then (some 8) else ((shapesearchref12_Samples.f k x0).bind fun t251=>(if t251 = 0 then ((shapesearchref12_Samples.f k x1).bind fun t252=>(shapesearchref12_Two.j1 k x0 x1 x2 (t252 != 0))) else (shapesearchref12_Two.j1 k x0 x1 x2 true)))
def shapesearchref12_Two.j1 : Nat → List Int → List Int → Int → Bool → Option (Int)
 | 0,_,_,_,_=>none
 | k + 1,x0,x1,x2,x32=>if x32 = true then (some 12) else (if (wrap64 ((x0.length : Int) - (x1.length : Int))) > x2 then (some 8) else (if (wrap64 ((x1.length : Int) - (x0.length : Int))) > x2 then (some 8) else (some 0)))
end
def shapesearchref12_Two.f (k : Nat) (l0 : List Int) (l1 : List Int) (a2 : Int) : Option (Int):=if (l0.length : Int) < 2 then (shapesearchref12_Two.j0 k l0 l1 a2 true) else (if (l0.length : Int) > 32 then (shapesearchref12_Two.j0 k l0 l1 a2 true) else (if (l1.length : Int) < 2 then (shapesearchref12_Two.j0 k l0 l1 a2 true) else (shapesearchref12_Two.j0 k l0 l1 a2 (decide ((l1.length : Int) > 32)))))
theorem shapesearchref12_Two.mono_l : ∀ k,(∀ y0 y1 y2 y3,LeO (shapesearchref12_Two.j0 k y0 y1 y2 y3) (shapesearchref12_Two.j0 (k + 1) y0 y1 y2 y3))∧(∀ y0 y1 y2 y3,LeO (shapesearchref12_Two.j1 k y0 y1 y2 y3) (shapesearchref12_Two.j1 (k + 1) y0 y1 y2 y3))
 | 0=>⟨fun _ _ _ _ r h=>by simp [shapesearchref12_Two.j0] at h,fun _ _ _ _ r h=>by simp [shapesearchref12_Two.j1] at h⟩
 | k + 1=>by
  obtain ⟨ih0,ih1⟩:=shapesearchref12_Two.mono_l k
  refine ⟨?_,?_⟩
  ·
   intro y0 y1 y2 y3
   unfold shapesearchref12_Two.j0
   repeat' first
   | (with_reducible exact ih0 _ _ _ _)
   | (with_reducible exact ih1 _ _ _ _)
   | (with_reducible exact shapesearchref12_Samples.mono _ _)
   | (with_reducible exact LeO.refl _)
   | (with_reducible exact LeO.none _)
   | (with_reducible refine LeO.ite ?_ ?_)
   | (with_reducible refine LeO.bind ?_ (fun _=>?_))
   | exact ih0 _ _ _ _
   | exact ih1 _ _ _ _
   | exact shapesearchref12_Samples.mono _ _
   | exact LeO.none _
   | refine LeO.ite ?_ ?_
   | refine LeO.bind ?_ (fun _=>?_)
  ·
   intro y0 y1 y2 y3
   unfold shapesearchref12_Two.j1
   repeat' first
   | (with_reducible exact ih0 _ _ _ _)
   | (with_reducible exact ih1 _ _ _ _)
   | (with_reducible exact shapesearchref12_Samples.mono _ _)
   | (with_reducible exact LeO.refl _)
   | (with_reducible exact LeO.none _)
   | (with_reducible refine LeO.ite ?_ ?_)
   | (with_reducible refine LeO.bind ?_ (fun _=>?_))
   | exact ih0 _ _ _ _
   | exact ih1 _ _ _ _
   | exact shapesearchref12_Samples.mono _ _
   | exact LeO.none _
   | refine LeO.ite ?_ ?_
   | refine LeO.bind ?_ (fun _=>?_)
theorem shapesearchref12_Two.mono : ∀ a0 a1 a2 k,LeO (shapesearchref12_Two.f k a0 a1 a2) (shapesearchref12_Two.f (k + 1) a0 a1 a2):=by
 intro a0 a1 a2 k
 obtain ⟨ih0,ih1⟩:=shapesearchref12_Two.mono_l k
 unfold shapesearchref12_Two.f
 repeat' first
   | (with_reducible exact ih0 _ _ _ _)
   | (with_reducible exact ih1 _ _ _ _)
   | (with_reducible exact shapesearchref12_Samples.mono _ _)
   | (with_reducible exact LeO.refl _)
   | (with_reducible exact LeO.none _)
   | (with_reducible refine LeO.ite ?_ ?_)
   | (with_reducible refine LeO.bind ?_ (fun _=>?_))
   | exact ih0 _ _ _ _
   | exact ih1 _ _ _ _
   | exact shapesearchref12_Samples.mono _ _
   | exact LeO.none _
   | refine LeO.ite ?_ ?_
   | refine LeO.bind ?_ (fun _=>?_)
set_option maxHeartbeats 8000000 in
set_option maxRecDepth 100000 in
theorem shapesearchref12_Two.calls (k : Nat) (A0 : Option Addr) (c0 : Nat) (l0 : List Int) (A1 : Option Addr) (c1 : Nat) (l1 : List Int) (a2 : Int) (r : Int) (w : World) (hr0 : Kd.C (Kd.int .i64) w A0 l0.length l0) (hc0 : l0.length ≤ c0) (hr1 : Kd.C (Kd.int .i64) w A1 l1.length l1) (hc1 : l1.length ≤ c1) (h : shapesearchref12_Two.f k l0 l1 a2 = some r) :
  Calls Try.prog 57 #[.slice A0 l0.length c0,.slice A1 l1.length c1,.int .i64 a2] w fun e w'=>e = .returned (.int .i64 r)∧Drawn0 w w':=by
 have HR0:=A_ hr0
 have HC0:=A_ hc0
 clear hr0 hc0
 have HR1:=A_ hr1
 have HC1:=A_ hc1
 clear hr1 hc1
 have H : (if (l0.length : Int) < 2 then (shapesearchref12_Two.j0 k l0 l1 a2 true) else (if (l0.length : Int) > 32 then (shapesearchref12_Two.j0 k l0 l1 a2 true) else (if (l1.length : Int) < 2 then (shapesearchref12_Two.j0 k l0 l1 a2 true) else (shapesearchref12_Two.j0 k l0 l1 a2 (decide ((l1.length : Int) > 32)))))) = some r:=h
 clear h
 have HC4:=A_ H
 clear H
 go_enter Try.func57,Try.ntmps57
 go_upto_region 1 with (fail)
 go_cut [24] (fun v24 wc=>∃ (kq : Nat) (x24_3 : Bool),v24 = .bool x24_3∧Aside0 (shapesearchref12_Two.j0 kq l0 l1 a2 x24_3 = some r)∧Aside0 (kq ≤ k)∧Drawn0 w wc)
 case first =>
  have H:=HC4.out
  clear HC4
  by_cases c5 : (l0.length : Int) < 2
  ·
   rw [if_pos c5] at H
   have c5b0 : decide ((l0.length : Int) < 2) = true:=decide_eq_true c5
   have c5b1 : decide (l0.length < 2) = true:=decide_eq_true (by omega)
   clear c5
   (first|rw [c5b0]|(simp only [i64_w,i32_w];rw [c5b0])|skip)
   have H':=A_ H
   clear H
   go_wp2
   go_meet
   case rel=>exact ⟨_,(true),(by first|rfl|(simp;done)|(simp [*];done)),H',⟨by first|omega|exact Nat.le_refl _⟩,by repeat (first|exact Drawn0.refl _|apply Drawn0.step)⟩
  ·
   rw [if_neg c5] at H
   have c5b0 : decide ((l0.length : Int) < 2) = false:=decide_eq_false c5
   have c5b1 : decide (l0.length < 2) = false:=decide_eq_false (by omega)
   clear c5
   (first|rw [c5b0]|(simp only [i64_w,i32_w];rw [c5b0])|skip)
   by_cases c6 : (l0.length : Int) > 32
   ·
    rw [if_pos c6] at H
    have c6b0 : decide (32 < (l0.length : Int)) = true:=decide_eq_true c6
    have c6b1 : decide (32 < l0.length) = true:=decide_eq_true (by omega)
    clear c6
    have H':=A_ H
    clear H
    go_wp2
    go_meet
    case rel=>exact ⟨_,(true),(by first|rfl|(simp;done)|(simp [*];done)),H',⟨by first|omega|exact Nat.le_refl _⟩,by repeat (first|exact Drawn0.refl _|apply Drawn0.step)⟩
   ·
    rw [if_neg c6] at H
    have c6b0 : decide (32 < (l0.length : Int)) = false:=decide_eq_false c6
    have c6b1 : decide (32 < l0.length) = false:=decide_eq_false (by omega)
    clear c6
    by_cases c7 : (l1.length : Int) < 2
    ·
     rw [if_pos c7] at H
     have c7b0 : decide ((l1.length : Int) < 2) = true:=decide_eq_true c7
     have c7b1 : decide (l1.length < 2) = true:=decide_eq_true (by omega)
     clear c7
     have H':=A_ H
     clear H
     go_wp2
     go_meet
     case rel=>exact ⟨_,(true),(by first|rfl|(simp;done)|(simp [*];done)),H',⟨by first|omega|exact Nat.le_refl _⟩,by repeat (first|exact Drawn0.refl _|apply Drawn0.step)⟩
    ·
     rw [if_neg c7] at H
     have c7b0 : decide ((l1.length : Int) < 2) = false:=decide_eq_false c7
     have c7b1 : decide (l1.length < 2) = false:=decide_eq_false (by omega)
     clear c7
     have H':=A_ H
     clear H
     go_wp2
     go_meet
     case rel=>exact ⟨_,(decide ((l1.length : Int) > 32)),(by first|rfl|(simp;done)|(simp [*];done)),H',⟨by first|omega|exact Nat.le_refl _⟩,by repeat (first|exact Drawn0.refl _|apply Drawn0.step)⟩
 case rest =>
  clear HC4
  try clear c1
  try clear p2
  try clear c5
  try clear c5b0
  try clear c5b1
  try clear c6
  try clear c6b0
  try clear c6b1
  try clear c7
  try clear c7b0
  try clear c7b1
  obtain ⟨kq,x24_3,rfl,HA,HJ3,⟨mc3,rfl⟩⟩:=hcut
  cases kq with
  | zero=>exact absurd HA.out (by simp [shapesearchref12_Two.j0])
  | succ kj3 =>
   have H:=HA.out
   clear HA
   simp only [shapesearchref12_Two.j0] at H
   by_cases c8 : x24_3 = true
   ·
    subst c8
    have H1 : (some 8) = some r:=by rw [if_pos rfl] at H;exact H
    clear H
    have H:=H1
    clear H1
    obtain rfl:=Option.some.inj H
    go_wp2
    go_ret
    exact ⟨by first|rfl|(simp;done)|(simp [*];done),by repeat (first|exact Drawn0.refl _|apply Drawn0.step)⟩
   ·
    replace c8:=Bool.eq_false_iff.mpr c8
    subst c8
    have H1 : ((shapesearchref12_Samples.f kj3 l0).bind fun t251=>(if t251 = 0 then ((shapesearchref12_Samples.f kj3 l1).bind fun t252=>(shapesearchref12_Two.j1 kj3 l0 l1 a2 (t252 != 0))) else (shapesearchref12_Two.j1 kj3 l0 l1 a2 true))) = some r:=by rw [if_neg (show ¬ (false = true) by decide)] at H;exact H
    clear H
    have H:=H1
    clear H1
    have HC9:=A_ H
    clear H
    go_upto_region 3 with (fail)
    go_cut [32] (fun v32 wc=>∃ (kq : Nat) (x32_8 : Bool),v32 = .bool x32_8∧Aside0 (shapesearchref12_Two.j1 kq l0 l1 a2 x32_8 = some r)∧Aside0 (kq ≤ kj3)∧Drawn0 w wc)
    case first =>
     have H:=HC9.out
     clear HC9
     replace H:=Option.bind_eq_some_iff.mp H
     obtain ⟨t251,A100,H⟩:=H
     replace H : (if t251 = 0 then ((shapesearchref12_Samples.f kj3 l1).bind fun t252=>(shapesearchref12_Two.j1 kj3 l0 l1 a2 (t252 != 0))) else (shapesearchref12_Two.j1 kj3 l0 l1 a2 true)) = some r:=H
     have A10:=A_ A100
     clear A100
     by_cases c11 : t251 = 0
     ·
      rw [if_pos c11] at H
      have c11b0 : (t251 == 0) = true:=beq_iff_eq.mpr c11
      have c11b1 : (t251 != 0) = false:=bne_eq_false_iff_eq.mpr c11
      clear c11
      (first|rw [c11b0]|(simp only [i64_w,i32_w];rw [c11b0])|skip)
      replace H:=Option.bind_eq_some_iff.mp H
      obtain ⟨t252,A120,H⟩:=H
      replace H : (shapesearchref12_Two.j1 kj3 l0 l1 a2 (t252 != 0)) = some r:=H
      have A12:=A_ A120
      clear A120
      have H':=A_ H
      clear H
      go_wp2_with (first|((with_reducible refine gate_callee (f:=66) rfl ?_);refine goesL_ (some 26) rfl rfl Try.func66 (by kernel_rfl) rfl #[.slice A0 l0.length c0] rfl (by (try simp only [List.map_toArray,List.map_cons,List.map_nil]);first|done|rfl|(simp only [List.length_drop,List.length_take];rfl)) ?_;(with_reducible refine (shapesearchref12_Samples.calls kj3 _ _ l0 t251 _ ?side1 ?side2 A10.out).mono ?_);(case side1=>repeat (first|exact HR0.out|(with_reducible refine ca ?_ _)|(with_reducible refine cb ?_ _)|(with_reducible refine cc ?_)));(case side2=>exact HC0.out);rintro e w' ⟨rfl,⟨nd,rfl⟩⟩;refine ⟨_,rfl,?_⟩)|(go_at_call 66;(with_reducible refine (shapesearchref12_Samples.calls kj3 _ _ l1 t252 _ ?side1 ?side2 A12.out).mono ?_);(case side1=>repeat (first|exact HR1.out|(with_reducible refine ca ?_ _)|(with_reducible refine cb ?_ _)|(with_reducible refine cc ?_)));(case side2=>exact HC1.out);rintro e w' ⟨rfl,⟨nd,rfl⟩⟩))
      go_meet
      case rel=>exact ⟨_,((t252 != 0)),(by first|rfl|(simp;done)|(simp [*];done)),H',⟨by have:=HJ3.out;first|omega|exact Nat.le_refl _⟩,by repeat (first|exact Drawn0.refl _|apply Drawn0.step)⟩
     ·
      rw [if_neg c11] at H
      have c11b0 : (t251 == 0) = false:=beq_eq_false_iff_ne.mpr c11
      have c11b1 : (t251 != 0) = true:=bne_iff_ne.mpr c11
      (first|rw [c11b0]|(simp only [i64_w,i32_w];rw [c11b0])|skip)
      have H':=A_ H
      clear H
      go_wp2_with (first|((with_reducible refine gate_callee (f:=66) rfl ?_);refine goesL_ (some 26) rfl rfl Try.func66 (by kernel_rfl) rfl #[.slice A0 l0.length c0] rfl (by (try simp only [List.map_toArray,List.map_cons,List.map_nil]);first|done|rfl|(simp only [List.length_drop,List.length_take];rfl)) ?_;(with_reducible refine (shapesearchref12_Samples.calls kj3 _ _ l0 t251 _ ?side1 ?side2 A10.out).mono ?_);(case side1=>repeat (first|exact HR0.out|(with_reducible refine ca ?_ _)|(with_reducible refine cb ?_ _)|(with_reducible refine cc ?_)));(case side2=>exact HC0.out);rintro e w' ⟨rfl,⟨nd,rfl⟩⟩;refine ⟨_,rfl,?_⟩))
      go_meet
      case rel=>exact ⟨_,(true),(by first|rfl|(simp;done)|(simp [*];done)),H',⟨by have:=HJ3.out;first|omega|exact Nat.le_refl _⟩,by repeat (first|exact Drawn0.refl _|apply Drawn0.step)⟩
    case rest =>
     clear HC9
     try clear c1
     try clear p2
     try clear c3
     try clear c5
     try clear c5b0
     try clear c5b1
     try clear c6
     try clear c6b0
     try clear c6b1
     try clear c7
     try clear c7b0
     try clear c7b1
     try clear c8
     try clear c11
     try clear c11b0
     try clear c11b1
     try clear p2
     obtain ⟨kq,x32_8,rfl,HA,HJ8,⟨mc8,rfl⟩⟩:=hcut
     cases kq with
     | zero=>exact absurd HA.out (by simp [shapesearchref12_Two.j1])
     | succ kj8 =>
      have H:=HA.out
      clear HA
      simp only [shapesearchref12_Two.j1] at H
      by_cases c13 : x32_8 = true
      ·
       subst c13
       have H1 : (some 12) = some r:=by rw [if_pos rfl] at H;exact H
       clear H
       have H:=H1
       clear H1
       obtain rfl:=Option.some.inj H
       go_wp2
       go_ret
       exact ⟨by first|rfl|(simp;done)|(simp [*];done),by repeat (first|exact Drawn0.refl _|apply Drawn0.step)⟩
      ·
       replace c13:=Bool.eq_false_iff.mpr c13
       subst c13
       have H1 : (if (wrap64 ((l0.length : Int) - (l1.length : Int))) > a2 then (some 8) else (if (wrap64 ((l1.length : Int) - (l0.length : Int))) > a2 then (some 8) else (some 0))) = some r:=by rw [if_neg (show ¬ (false = true) by decide)] at H;exact H
       clear H
       have H:=H1
       clear H1
       by_cases c14 : (wrap64 ((l0.length : Int) - (l1.length : Int))) > a2
       ·
        rw [if_pos c14] at H
        have c14b0 : decide (a2 < (wrap64 ((l0.length : Int) - (l1.length : Int)))) = true:=decide_eq_true c14
        clear c14
        obtain rfl:=Option.some.inj H
        go_wp2
        go_ret
        exact ⟨by first|rfl|(simp;done)|(simp [*];done),by repeat (first|exact Drawn0.refl _|apply Drawn0.step)⟩
       ·
        rw [if_neg c14] at H
        have c14b0 : decide (a2 < (wrap64 ((l0.length : Int) - (l1.length : Int)))) = false:=decide_eq_false c14
        clear c14
        by_cases c15 : (wrap64 ((l1.length : Int) - (l0.length : Int))) > a2
        ·
         rw [if_pos c15] at H
         have c15b0 : decide (a2 < (wrap64 ((l1.length : Int) - (l0.length : Int)))) = true:=decide_eq_true c15
         clear c15
         obtain rfl:=Option.some.inj H
         go_wp2
         go_ret
         exact ⟨by first|rfl|(simp;done)|(simp [*];done),by repeat (first|exact Drawn0.refl _|apply Drawn0.step)⟩
        ·
         rw [if_neg c15] at H
         have c15b0 : decide (a2 < (wrap64 ((l1.length : Int) - (l0.length : Int)))) = false:=decide_eq_false c15
         clear c15
         obtain rfl:=Option.some.inj H
         go_wp2
         go_ret
         exact ⟨by first|rfl|(simp;done)|(simp [*];done),by repeat (first|exact Drawn0.refl _|apply Drawn0.step)⟩

/-! ### shapesearchref14_Check: function 37 -/
def shapesearchref14_Check.f (k : Nat) (l0 : List Int) (l1 : List Int) (a2 : Int) : Option (Int):=if a2 < 0 then (some 1) else (if a2 > 32 then (some 1) else ((shapesearchref12_Two.f k l0 l1 a2).bind fun t253=>(some t253)))
theorem shapesearchref14_Check.mono : ∀ a0 a1 a2 k,LeO (shapesearchref14_Check.f k a0 a1 a2) (shapesearchref14_Check.f (k + 1) a0 a1 a2):=by
 intro a0 a1 a2 k
 unfold shapesearchref14_Check.f
 repeat' first
   | (with_reducible exact shapesearchref12_Two.mono _ _ _ _)
   | (with_reducible exact LeO.refl _)
   | (with_reducible exact LeO.none _)
   | (with_reducible refine LeO.ite ?_ ?_)
   | (with_reducible refine LeO.bind ?_ (fun _=>?_))
   | exact shapesearchref12_Two.mono _ _ _ _
   | exact LeO.none _
   | refine LeO.ite ?_ ?_
   | refine LeO.bind ?_ (fun _=>?_)
set_option maxHeartbeats 8000000 in
set_option maxRecDepth 100000 in
theorem shapesearchref14_Check.calls (k : Nat) (A0 : Option Addr) (c0 : Nat) (l0 : List Int) (A1 : Option Addr) (c1 : Nat) (l1 : List Int) (a2 : Int) (r : Int) (w : World) (hr0 : Kd.C (Kd.int .i64) w A0 l0.length l0) (hc0 : l0.length ≤ c0) (hr1 : Kd.C (Kd.int .i64) w A1 l1.length l1) (hc1 : l1.length ≤ c1) (h : shapesearchref14_Check.f k l0 l1 a2 = some r) :
  Calls Try.prog 37 #[.slice A0 l0.length c0,.slice A1 l1.length c1,.int .i64 a2] w fun e w'=>e = .returned (.int .i64 r)∧Drawn0 w w':=by
 have HR0:=A_ hr0
 have HC0:=A_ hc0
 clear hr0 hc0
 have HR1:=A_ hr1
 have HC1:=A_ hc1
 clear hr1 hc1
 have H : (if a2 < 0 then (some 1) else (if a2 > 32 then (some 1) else ((shapesearchref12_Two.f k l0 l1 a2).bind fun t253=>(some t253)))) = some r:=h
 clear h
 by_cases c4 : a2 < 0
 ·
  rw [if_pos c4] at H
  have c4b0 : decide (a2 < 0) = true:=decide_eq_true c4
  clear c4
  obtain rfl:=Option.some.inj H
  go_enter Try.func37,Try.ntmps37
  go_wp2
  go_ret
  exact ⟨by first|rfl|(simp;done)|(simp [*];done),by repeat (first|exact Drawn0.refl _|apply Drawn0.step)⟩
 ·
  rw [if_neg c4] at H
  have c4b0 : decide (a2 < 0) = false:=decide_eq_false c4
  clear c4
  by_cases c5 : a2 > 32
  ·
   rw [if_pos c5] at H
   have c5b0 : decide (32 < a2) = true:=decide_eq_true c5
   clear c5
   obtain rfl:=Option.some.inj H
   go_enter Try.func37,Try.ntmps37
   go_wp2
   go_ret
   exact ⟨by first|rfl|(simp;done)|(simp [*];done),by repeat (first|exact Drawn0.refl _|apply Drawn0.step)⟩
  ·
   rw [if_neg c5] at H
   have c5b0 : decide (32 < a2) = false:=decide_eq_false c5
   clear c5
   replace H:=Option.bind_eq_some_iff.mp H
   obtain ⟨t253,A60,H⟩:=H
   replace H : (some t253) = some r:=H
   have A6:=A_ A60
   clear A60
   obtain rfl:=Option.some.inj H
   go_enter Try.func37,Try.ntmps37
   go_wp2_with (first|((with_reducible refine gate_callee (f:=57) rfl ?_);refine goesL_ (some 16) rfl rfl Try.func57 (by kernel_rfl) rfl #[.slice A0 l0.length c0,.slice A1 l1.length c1,.int .i64 a2] rfl (by (try simp only [List.map_toArray,List.map_cons,List.map_nil]);first|done|rfl|(simp only [List.length_drop,List.length_take];rfl)) ?_;(with_reducible refine (shapesearchref12_Two.calls k _ _ l0 _ _ l1 a2 t253 _ ?side1 ?side2 ?side3 ?side4 A6.out).mono ?_);(case side1=>repeat (first|exact HR0.out|(with_reducible refine ca ?_ _)|(with_reducible refine cb ?_ _)|(with_reducible refine cc ?_)));(case side2=>exact HC0.out);(case side3=>repeat (first|exact HR1.out|(with_reducible refine ca ?_ _)|(with_reducible refine cb ?_ _)|(with_reducible refine cc ?_)));(case side4=>exact HC1.out);rintro e w' ⟨rfl,⟨nd,rfl⟩⟩;refine ⟨_,rfl,?_⟩))
   go_ret
   exact ⟨by first|rfl|(simp;done)|(simp [*];done),by repeat (first|exact Drawn0.refl _|apply Drawn0.step)⟩

/-! ### shapesearchref14_out: function 58 -/
def shapesearchref14_out.f (a0 : Int) (a1 : Int) (a2 : Int) (a3 : Int) (a4 : Int) : Option (Bool):=if a3 < 0 then (some true) else (if a4 < 0 then (some true) else (if a3 ≥ a0 then (some true) else (if a4 ≥ a1 then (some true) else (if (wrap64 (a3 - a4)) > a2 then (some true) else (some (decide ((wrap64 (a4 - a3)) > a2)))))))
set_option maxHeartbeats 8000000 in
set_option maxRecDepth 100000 in
theorem shapesearchref14_out.calls (a0 : Int) (a1 : Int) (a2 : Int) (a3 : Int) (a4 : Int) (r : Bool) (w : World) (h : shapesearchref14_out.f a0 a1 a2 a3 a4 = some r) :
  Calls Try.prog 58 #[.int .i64 a0,.int .i64 a1,.int .i64 a2,.int .i64 a3,.int .i64 a4] w fun e w'=>e = .returned (.bool r)∧Drawn0 w w':=by
 have H : (if a3 < 0 then (some true) else (if a4 < 0 then (some true) else (if a3 ≥ a0 then (some true) else (if a4 ≥ a1 then (some true) else (if (wrap64 (a3 - a4)) > a2 then (some true) else (some (decide ((wrap64 (a4 - a3)) > a2)))))))) = some r:=h
 clear h
 by_cases c6 : a3 < 0
 ·
  rw [if_pos c6] at H
  have c6b0 : decide (a3 < 0) = true:=decide_eq_true c6
  clear c6
  obtain rfl:=Option.some.inj H
  go_enter Try.func58,Try.ntmps58
  go_wp2
  go_ret
  exact ⟨by first|rfl|(simp;done)|(simp [*];done),by repeat (first|exact Drawn0.refl _|apply Drawn0.step)⟩
 ·
  rw [if_neg c6] at H
  have c6b0 : decide (a3 < 0) = false:=decide_eq_false c6
  clear c6
  by_cases c7 : a4 < 0
  ·
   rw [if_pos c7] at H
   have c7b0 : decide (a4 < 0) = true:=decide_eq_true c7
   clear c7
   obtain rfl:=Option.some.inj H
   go_enter Try.func58,Try.ntmps58
   go_wp2
   go_ret
   exact ⟨by first|rfl|(simp;done)|(simp [*];done),by repeat (first|exact Drawn0.refl _|apply Drawn0.step)⟩
  ·
   rw [if_neg c7] at H
   have c7b0 : decide (a4 < 0) = false:=decide_eq_false c7
   clear c7
   by_cases c8 : a3 ≥ a0
   ·
    rw [if_pos c8] at H
    have c8b0 : decide (a0 ≤ a3) = true:=decide_eq_true c8
    clear c8
    obtain rfl:=Option.some.inj H
    go_enter Try.func58,Try.ntmps58
    go_wp2
    go_ret
    exact ⟨by first|rfl|(simp;done)|(simp [*];done),by repeat (first|exact Drawn0.refl _|apply Drawn0.step)⟩
   ·
    rw [if_neg c8] at H
    have c8b0 : decide (a0 ≤ a3) = false:=decide_eq_false c8
    clear c8
    by_cases c9 : a4 ≥ a1
    ·
     rw [if_pos c9] at H
     have c9b0 : decide (a1 ≤ a4) = true:=decide_eq_true c9
     clear c9
     obtain rfl:=Option.some.inj H
     go_enter Try.func58,Try.ntmps58
     go_wp2
     go_ret
     exact ⟨by first|rfl|(simp;done)|(simp [*];done),by repeat (first|exact Drawn0.refl _|apply Drawn0.step)⟩
    ·
     rw [if_neg c9] at H
     have c9b0 : decide (a1 ≤ a4) = false:=decide_eq_false c9
     clear c9
     by_cases c10 : (wrap64 (a3 - a4)) > a2
     ·
      rw [if_pos c10] at H
      have c10b0 : decide (a2 < (wrap64 (a3 - a4))) = true:=decide_eq_true c10
      clear c10
      obtain rfl:=Option.some.inj H
      go_enter Try.func58,Try.ntmps58
      go_wp2
      go_ret
      exact ⟨by first|rfl|(simp;done)|(simp [*];done),by repeat (first|exact Drawn0.refl _|apply Drawn0.step)⟩
     ·
      rw [if_neg c10] at H
      have c10b0 : decide (a2 < (wrap64 (a3 - a4))) = false:=decide_eq_false c10
      clear c10
      obtain rfl:=Option.some.inj H
      go_enter Try.func58,Try.ntmps58
      go_wp2
      go_ret
      exact ⟨by first|rfl|(simp;done)|(simp [*];done),by repeat (first|exact Drawn0.refl _|apply Drawn0.step)⟩

/-! ### shapesearchref14_At: function 60 -/
def shapesearchref14_At.f (l0 : List (List Int)) (a1 : Int) (a2 : Int) (a3 : Int) : Option (Int):=if (l0.length : Int) = 0 then (some 4611686018427387904) else (if 0 < (l0.length : Int) then ((shapesearchref14_out.f (l0.length : Int) ((rd_L1 l0 0).length : Int) a1 a2 a3).bind fun t255=>(if t255 = true then (some 4611686018427387904) else (if 0 ≤ a2 then (if a2 < (l0.length : Int) then (if 0 ≤ a3 then (if a3 < ((rd_L1 l0 a2).length : Int) then (some (rd (rd_L1 l0 a2) a3)) else (none)) else (none)) else (none)) else (none)))) else (none))
set_option maxHeartbeats 8000000 in
set_option maxRecDepth 100000 in
theorem shapesearchref14_At.calls (A0 : Option Addr) (c0 : Nat) (l0 : List (List Int)) (a1 : Int) (a2 : Int) (a3 : Int) (r : Int) (w : World) (hr0 : Kd.C (Kd.slice 3 (Kd.int .i64)) w A0 l0.length l0) (hc0 : l0.length ≤ c0) (h : shapesearchref14_At.f l0 a1 a2 a3 = some r) :
  Calls Try.prog 60 #[.slice A0 l0.length c0,.int .i64 a1,.int .i64 a2,.int .i64 a3] w fun e w'=>e = .returned (.int .i64 r)∧Drawn0 w w':=by
 have HR0:=A_ hr0
 have HC0:=A_ hc0
 clear hr0 hc0
 have H : (if (l0.length : Int) = 0 then (some 4611686018427387904) else (if 0 < (l0.length : Int) then ((shapesearchref14_out.f (l0.length : Int) ((rd_L1 l0 0).length : Int) a1 a2 a3).bind fun t255=>(if t255 = true then (some 4611686018427387904) else (if 0 ≤ a2 then (if a2 < (l0.length : Int) then (if 0 ≤ a3 then (if a3 < ((rd_L1 l0 a2).length : Int) then (some (rd (rd_L1 l0 a2) a3)) else (none)) else (none)) else (none)) else (none)))) else (none))) = some r:=h
 clear h
 by_cases c5 : (l0.length : Int) = 0
 ·
  rw [if_pos c5] at H
  have c5b0 : ((l0.length : Int) == 0) = true:=beq_iff_eq.mpr c5
  have c5b1 : ((l0.length : Int) != 0) = false:=bne_eq_false_iff_eq.mpr c5
  clear c5
  obtain rfl:=Option.some.inj H
  go_enter Try.func60,Try.ntmps60
  go_wp2
  go_ret
  exact ⟨by first|rfl|(simp;done)|(simp [*];done),by repeat (first|exact Drawn0.refl _|apply Drawn0.step)⟩
 ·
  rw [if_neg c5] at H
  have c5b0 : ((l0.length : Int) == 0) = false:=beq_eq_false_iff_ne.mpr c5
  have c5b1 : ((l0.length : Int) != 0) = true:=bne_iff_ne.mpr c5
  have c5b2 : ¬ (l0 = []):=fun h_=>c5 (by rw [h_];rfl)
  by_cases c6 : 0 < (l0.length : Int)
  ·
   rw [if_pos c6] at H
   have c6b0 : decide (0 < (l0.length : Int)) = true:=decide_eq_true c6
   have c6b1 : decide (0 < l0.length) = true:=decide_eq_true (by omega)
   clear c6
   replace H:=Option.bind_eq_some_iff.mp H
   obtain ⟨t255,A70,H⟩:=H
   replace H : (if t255 = true then (some 4611686018427387904) else (if 0 ≤ a2 then (if a2 < (l0.length : Int) then (if 0 ≤ a3 then (if a3 < ((rd_L1 l0 a2).length : Int) then (some (rd (rd_L1 l0 a2) a3)) else (none)) else (none)) else (none)) else (none))) = some r:=H
   have A7:=A_ A70
   clear A70
   by_cases c8 : t255 = true
   ·
    subst c8
    have H1 : (some 4611686018427387904) = some r:=by rw [if_pos rfl] at H;exact H
    clear H
    have H:=H1
    clear H1
    obtain rfl:=Option.some.inj H
    have p254 : 0 ≤ (0 : Int):=(by omega)
    have q254 : 0 < (l0.length : Int):=of_decide_eq_true (by first|(with_reducible assumption)|assumption)
    obtain ⟨ad254,A254_0,c254_0,e254,hx254_0,hl254_0,hi254_0⟩:=at_L1 HR0.out 0 p254 q254
    cases e254
    have qi254 : (0 < l0.length) = True:=eq_true (by omega)
    (try rw [show ((0 : Int)).toNat = 0 from rfl] at hx254_0)
    (try rw [Addr.add_zero'] at hx254_0)
    have HR254_0:=A_ hi254_0
    have HC254_0:=A_ hl254_0
    clear hi254_0 hl254_0
    replace p254:=eq_true p254
    replace q254:=eq_true q254
    go_enter Try.func60,Try.ntmps60
    go_wp2_with (first|(go_at_call 58;(with_reducible refine (shapesearchref14_out.calls (l0.length : Int) ((rd_L1 l0 0).length : Int) a1 a2 a3 true _ A7.out).mono ?_);rintro e w' ⟨rfl,⟨nd,rfl⟩⟩))
    go_ret
    exact ⟨by first|rfl|(simp;done)|(simp [*];done),by repeat (first|exact Drawn0.refl _|apply Drawn0.step)⟩
   ·
    replace c8:=Bool.eq_false_iff.mpr c8
    subst c8
    have H1 : (if 0 ≤ a2 then (if a2 < (l0.length : Int) then (if 0 ≤ a3 then (if a3 < ((rd_L1 l0 a2).length : Int) then (some (rd (rd_L1 l0 a2) a3)) else (none)) else (none)) else (none)) else (none)) = some r:=by rw [if_neg (show ¬ (false = true) by decide)] at H;exact H
    clear H
    have H:=H1
    clear H1
    by_cases c9 : 0 ≤ a2
    ·
     rw [if_pos c9] at H
     have c9b0 : decide (0 ≤ a2) = true:=decide_eq_true c9
     clear c9
     by_cases c10 : a2 < (l0.length : Int)
     ·
      rw [if_pos c10] at H
      have c10b0 : decide (a2 < (l0.length : Int)) = true:=decide_eq_true c10
      clear c10
      by_cases c11 : 0 ≤ a3
      ·
       rw [if_pos c11] at H
       have c11b0 : decide (0 ≤ a3) = true:=decide_eq_true c11
       clear c11
       by_cases c12 : a3 < ((rd_L1 l0 a2).length : Int)
       ·
        rw [if_pos c12] at H
        have c12b0 : decide (a3 < ((rd_L1 l0 a2).length : Int)) = true:=decide_eq_true c12
        clear c12
        obtain rfl:=Option.some.inj H
        have p254 : 0 ≤ (0 : Int):=(by omega)
        have q254 : 0 < (l0.length : Int):=of_decide_eq_true (by first|(with_reducible assumption)|assumption)
        obtain ⟨ad254,A254_0,c254_0,e254,hx254_0,hl254_0,hi254_0⟩:=at_L1 HR0.out 0 p254 q254
        cases e254
        have qi254 : (0 < l0.length) = True:=eq_true (by omega)
        (try rw [show ((0 : Int)).toNat = 0 from rfl] at hx254_0)
        (try rw [Addr.add_zero'] at hx254_0)
        have HR254_0:=A_ hi254_0
        have HC254_0:=A_ hl254_0
        clear hi254_0 hl254_0
        replace p254:=eq_true p254
        replace q254:=eq_true q254
        go_enter Try.func60,Try.ntmps60
        go_wp2_with (first|(go_at_call 58;(with_reducible refine (shapesearchref14_out.calls (l0.length : Int) ((rd_L1 l0 0).length : Int) a1 a2 a3 false _ A7.out).mono ?_);rintro e w' ⟨rfl,⟨nd,rfl⟩⟩;have p256 : 0 ≤ (a2 : Int):=of_decide_eq_true (by first|(with_reducible assumption)|assumption);have q256 : a2 < (l0.length : Int):=of_decide_eq_true (by first|(with_reducible assumption)|assumption);obtain ⟨ad256,A256_0,c256_0,e256,hx256_0,hl256_0,hi256_0⟩:=at_L1 HR0.out a2 p256 q256;obtain rfl : ad254 = ad256:=(by injection e256);have HR256_0:=A_ hi256_0;have HC256_0:=A_ hl256_0;clear hi256_0 hl256_0;replace p256:=eq_true p256;replace q256:=eq_true q256;have p257 : 0 ≤ (a3 : Int):=of_decide_eq_true (by first|(with_reducible assumption)|assumption);have q257 : a3 < ((rd_L1 l0 a2).length : Int):=of_decide_eq_true (by first|(with_reducible assumption)|assumption);obtain ⟨ad257,e257,hx257_0⟩:=Kd.at_int HR256_0.out a3 p257 q257;cases e257;replace p257:=eq_true p257;replace q257:=eq_true q257))
        go_ret
        exact ⟨by first|rfl|(simp;done)|(simp [*];done),by repeat (first|exact Drawn0.refl _|apply Drawn0.step)⟩
       ·
        rw [if_neg c12] at H
        exact absurd H (by simp)
      ·
       rw [if_neg c11] at H
       exact absurd H (by simp)
     ·
      rw [if_neg c10] at H
      exact absurd H (by simp)
    ·
     rw [if_neg c9] at H
     exact absurd H (by simp)
  ·
   rw [if_neg c6] at H
   exact absurd H (by simp)

/-! ### shapesearchref14_Before: function 59 -/
def shapesearchref14_Before.two (l0 : List (List Int)) (a1 b1 b2 p1 p2 : Int) : Option (Int × Int):=(shapesearchref14_At.f l0 a1 p1 p2).bind fun u=>(shapesearchref14_At.f l0 a1 b1 b2).bind fun v=>some (if u < v then (p1,p2) else (b1,b2))
def shapesearchref14_Before.f (l0 : List (List Int)) (a1 a2 a3 : Int) : Option (Int × Int) :=
 (shapesearchref14_Before.two l0 a1 (wrap64 (a2 - 1)) (wrap64 (a3 - 1)) (wrap64 (a2 - 1)) a3).bind fun b=>shapesearchref14_Before.two l0 a1 b.1 b.2 a2 (wrap64 (a3 - 1))
theorem shapesearchref14_Before.ld {w : World} {g : Nat} {x y : Int} (h : w.heap[g]? = some (.cells #[.int .i64 x,.int .i64 y] 73 (0,0))) : w.cell? ⟨g,0,none⟩ = some (.int .i64 x)∧w.cell? ⟨g,1,none⟩ = some (.int .i64 y)∧w.frozen? ⟨g,0,none⟩ = false∧w.frozen? ⟨g,1,none⟩ = false :=
 ⟨(blk_cell h 0).trans rfl,(blk_cell h 1).trans rfl,blk_frozen h 0,blk_frozen h 1⟩
theorem shapesearchref14_Before.st {w : World} {g : Nat} {x y : Int} (x1 y1 : Int) (h : w.heap[g]? = some (.cells #[.int .i64 x,.int .i64 y] 73 (0,0))) : ((w.setCell ⟨g,0,none⟩ (.int .i64 x1)).setCell ⟨g,1,none⟩ (.int .i64 y1)).heap[g]? = some (.cells #[.int .i64 x1,.int .i64 y1] 73 (0,0)):=blk_set (blk_set h 0 _) 1 _
theorem shapesearchref14_Before.fa {w : World} {g g' : Nat} {o : Obj} (u v : Value) (hne : g'≠g) (h : w.heap[g']? = some o) : ((w.setCell ⟨g,0,none⟩ u).setCell ⟨g,1,none⟩ v).heap[g']? = some o:=(Below.heap_setCell _ ⟨g,1,none⟩ v g' hne).trans ((Below.heap_setCell _ ⟨g,0,none⟩ u g' hne).trans h)
theorem shapesearchref14_Before.be {w W : World} {g : Nat} (u v : Value) (hg : w.heap.size ≤ g) (h : Below w.heap.size w W) : Below w.heap.size w ((W.setCell ⟨g,0,none⟩ u).setCell ⟨g,1,none⟩ v):=(h.setCell (p:=⟨g,0,none⟩) hg u).setCell (p:=⟨g,1,none⟩) hg v
theorem shapesearchref14_Before.ix0 (a b c d : Int) (w : World) : Sem.run Try.prog (Instr.index 81 (Value.agg #[.int .i64 a,.int .i64 b,.int .i64 c,.int .i64 d]) (.int .i64 0)) w = .ok (Value.agg #[.int .i64 a,.int .i64 b]) w:=rfl
theorem shapesearchref14_Before.ix1 (a b c d : Int) (w : World) : Sem.run Try.prog (Instr.index 81 (Value.agg #[.int .i64 a,.int .i64 b,.int .i64 c,.int .i64 d]) (.int .i64 1)) w = .ok (Value.agg #[.int .i64 c,.int .i64 d]) w:=rfl
attribute [local go_sem] shapesearchref14_Before.ix0 shapesearchref14_Before.ix1
set_option maxHeartbeats 8000000 in
set_option maxRecDepth 100000 in
theorem shapesearchref14_Before.calls (A0 : Option Addr) (c0 : Nat) (l0 : List (List Int)) (a1 : Int) (a2 : Int) (a3 : Int) (r1 : Int) (r2 : Int) (w : World) (hr0 : Kd.C (Kd.slice 3 (Kd.int .i64)) w A0 l0.length l0) (hc0 : l0.length ≤ c0) (h : shapesearchref14_Before.f l0 a1 a2 a3 = some (r1,r2)) :
  Calls Try.prog 59 #[.slice A0 l0.length c0,.int .i64 a1,.int .i64 a2,.int .i64 a3] w fun e w'=>e = .returned (.agg #[.int .i64 r1,.int .i64 r2])∧Below w.heap.size w w':=by
 have HR0:=A_ hr0
 have HC0:=A_ hc0
 clear hr0 hc0
 unfold shapesearchref14_Before.f at h
 obtain ⟨⟨b1,b2⟩,hb,hT2⟩:=Option.bind_eq_some_iff.mp h
 unfold shapesearchref14_Before.two at hb hT2
 obtain ⟨u0,hu0,hb'⟩:=Option.bind_eq_some_iff.mp hb
 obtain ⟨v0,hv0,hb2⟩:=Option.bind_eq_some_iff.mp hb'
 obtain ⟨u1,hu1,hT3⟩:=Option.bind_eq_some_iff.mp hT2
 obtain ⟨v1,hv1,hT4⟩:=Option.bind_eq_some_iff.mp hT3
 have HE1:=A_ (Option.some.inj hb2)
 have HE2:=A_ (Option.some.inj hT4)
 have HU0:=A_ hu0
 have HV0:=A_ hv0
 have HU1:=A_ hu1
 have HV1:=A_ hv1
 clear h hb hT2 hb' hT3 hb2 hT4 hu0 hv0 hu1 hv1
 go_enter Try.func59,Try.ntmps59
 go_upto_region 2 with (fail)
 have HZ:=A_ (blk_alloc (heap_alloc_new w (Obj.cells #[.int .i64 0,.int .i64 0] 73)) (Obj.cells #[.int .i64 (wrap64 (a2 - 1)),.int .i64 (wrap64 (a3 - 1))] 73))
 have HQ:=A_ (show ((w.alloc (Obj.cells #[.int .i64 0,.int .i64 0] 73)).alloc (Obj.cells #[.int .i64 (wrap64 (a2 - 1)),.int .i64 (wrap64 (a3 - 1))] 73)).heap[w.heap.size + 1]? = some (.cells #[.int .i64 (wrap64 (a2 - 1)),.int .i64 (wrap64 (a3 - 1))] 73 (0,0)) from by have:=heap_alloc_new (w.alloc (Obj.cells #[.int .i64 0,.int .i64 0] 73)) (Obj.cells #[.int .i64 (wrap64 (a2 - 1)),.int .i64 (wrap64 (a3 - 1))] 73);rwa [World.size_alloc] at this)
 have HB:=A_ (show Below w.heap.size w ((w.alloc (Obj.cells #[.int .i64 0,.int .i64 0] 73)).alloc (Obj.cells #[.int .i64 (wrap64 (a2 - 1)),.int .i64 (wrap64 (a3 - 1))] 73)) from ((Below.refl _ _).alloc (Nat.le_refl _) _).alloc (by simp) _)
 generalize (w.alloc (Obj.cells #[.int .i64 0,.int .i64 0] 73)).alloc (Obj.cells #[.int .i64 (wrap64 (a2 - 1)),.int .i64 (wrap64 (a3 - 1))] 73) = W0 at HZ HQ HB ⊢
 have hw1 : IntKind.i64.wrap (a2 - 1) = wrap64 (a2 - 1):=i64_w _
 have hw2 : IntKind.i64.wrap (a3 - 1) = wrap64 (a3 - 1):=i64_w _
 go_wp2_with fail
 go_loopg [26] 2 (fun gk s26 wx=>∃ (z : Nat) (c1 c2 : Int),z + gk = 2∧s26 = .int .i64 z∧Aside0 ((z = 0∧c1 = wrap64 (a2 - 1)∧c2 = wrap64 (a3 - 1)) ∨ (z = 1∧c1 = b1∧c2 = b2) ∨ (z = 2∧c1 = r1∧c2 = r2))∧Aside0 (wx.heap[w.heap.size]? = some (.cells #[.int .i64 0,.int .i64 0] 73 (0,0)))∧Aside0 (wx.heap[w.heap.size + 1]? = some (.cells #[.int .i64 c1,.int .i64 c2] 73 (0,0)))∧Aside0 (Below w.heap.size w wx))
 case atStart=>exact ⟨0,_,_,rfl,rfl,⟨Or.inl ⟨rfl,rfl,rfl⟩⟩,HZ,HQ,HB⟩
 case round =>
  clear HZ HQ HB
  obtain ⟨z,c1,c2,hz,rfl,HP,HZ,HQ,HB⟩:=hrel
  rcases HP.out with ⟨rfl,rfl,rfl⟩|⟨rfl,rfl,rfl⟩|⟨rfl,rfl,rfl⟩
  case inr.inr =>
   obtain ⟨q0,q1,q2,q3⟩:=shapesearchref14_Before.ld HQ.out
   obtain ⟨z0,z1,f0,f1⟩:=shapesearchref14_Before.ld HZ.out
   go_wp2_with fail
   exact bodyPost_ret (results_cell_row rfl _ _ w.heap.size 73 _ (0,0) _ rfl (shapesearchref14_Before.st c1 c2 HZ.out) Try.underlying73 rfl (by kernel_rfl)) rfl ⟨rfl,shapesearchref14_Before.be _ _ (Nat.le_refl _) HB.out⟩
  case inl =>
   obtain rfl : gk = 2:=by omega
   go_upto_region 5 with (fail)
   have HX:=A_ (heap_alloc_new wr (Obj.cells #[.int .i64 (wrap64 (a2 - 1)),.int .i64 a3] 73))
   have HZ2:=A_ (blk_alloc HZ.out (Obj.cells #[.int .i64 (wrap64 (a2 - 1)),.int .i64 a3] 73))
   have HQ2:=A_ (blk_alloc HQ.out (Obj.cells #[.int .i64 (wrap64 (a2 - 1)),.int .i64 a3] 73))
   have HB2:=A_ (HB.out.alloc HB.out.size (Obj.cells #[.int .i64 (wrap64 (a2 - 1)),.int .i64 a3] 73))
   have n1:=blk_lt HQ.out
   generalize wr.alloc (Obj.cells #[.int .i64 (wrap64 (a2 - 1)),.int .i64 a3] 73) = W3 at HX HZ2 HQ2 HB2 ⊢
   generalize wr.heap.size = gx at HX n1 ⊢
   clear HZ HQ HB
   obtain ⟨q0,q1,q2,q3⟩:=shapesearchref14_Before.ld HQ2.out
   obtain ⟨x0,x1,-,-⟩:=shapesearchref14_Before.ld HX.out
   have HA:=A_ (fun n_ : Nat=>Calls.quiet_of (n:=n_) (v:=.int .i64 u0) ((shapesearchref14_At.calls A0 c0 l0 a1 (wrap64 (a2 - 1)) a3 u0 (W3.drewN n_) (cl HR0.out (pw_below_drewN HB2.out n_)) HC0.out HU0.out).mono fun e w' ⟨h1,m,hm⟩=>⟨h1,m,hm⟩))
   have HV:=A_ (fun n_ : Nat=>Calls.quiet_of (n:=n_) (v:=.int .i64 v0) ((shapesearchref14_At.calls A0 c0 l0 a1 (wrap64 (a2 - 1)) (wrap64 (a3 - 1)) v0 (W3.drewN n_) (cl HR0.out (pw_below_drewN HB2.out n_)) HC0.out HV0.out).mono fun e w' ⟨h1,m,hm⟩=>⟨h1,m,hm⟩))
   have HE:=A_ HE1.out
   go_quiet (first|(go_at_call 60;with_reducible exact HA.out _)|(go_at_call 60;with_reducible exact HV.out _))
   clear HA HV
   by_cases hlt : u0 < v0
   case pos =>
    have d1 : decide (u0 < v0) = true:=decide_eq_true hlt
    have hE:=HE.out
    rw [if_pos hlt] at hE
    have HE3:=A_ (Prod.mk.inj hE)
    rw [d1]
    clear hlt hE HE d1
    go_wp2_with fail
    go_roundg 1
    case measure=>omega
    case rel=>exact ⟨1,(wrap64 (a2 - 1)),a3,by omega,by first|rfl|simp,⟨Or.inr (Or.inl ⟨rfl,HE3.out.1,HE3.out.2⟩)⟩,⟨shapesearchref14_Before.fa (w:=W3.drewN nq) _ _ (by omega) (blk_drewN HZ2.out nq)⟩,⟨shapesearchref14_Before.st (w:=W3.drewN nq) _ _ (blk_drewN HQ2.out nq)⟩,⟨shapesearchref14_Before.be (W:=W3.drewN nq) _ _ (by omega) (pw_below_drewN HB2.out nq)⟩⟩
   case neg =>
    have d1 : decide (u0 < v0) = false:=decide_eq_false hlt
    have hE:=HE.out
    rw [if_neg hlt] at hE
    have HE3:=A_ (Prod.mk.inj hE)
    rw [d1]
    clear hlt hE HE d1
    go_wp2_with fail
    go_roundg 1
    case measure=>omega
    case rel=>exact ⟨1,(wrap64 (a2 - 1)),(wrap64 (a3 - 1)),by omega,by first|rfl|simp,⟨Or.inr (Or.inl ⟨rfl,HE3.out.1,HE3.out.2⟩)⟩,⟨blk_drewN HZ2.out nq⟩,⟨blk_drewN HQ2.out nq⟩,⟨pw_below_drewN HB2.out nq⟩⟩
  case inr.inl =>
   obtain rfl : gk = 1:=by omega
   go_upto_region 5 with (fail)
   have HX:=A_ (heap_alloc_new wr (Obj.cells #[.int .i64 a2,.int .i64 (wrap64 (a3 - 1))] 73))
   have HZ2:=A_ (blk_alloc HZ.out (Obj.cells #[.int .i64 a2,.int .i64 (wrap64 (a3 - 1))] 73))
   have HQ2:=A_ (blk_alloc HQ.out (Obj.cells #[.int .i64 a2,.int .i64 (wrap64 (a3 - 1))] 73))
   have HB2:=A_ (HB.out.alloc HB.out.size (Obj.cells #[.int .i64 a2,.int .i64 (wrap64 (a3 - 1))] 73))
   have n1:=blk_lt HQ.out
   generalize wr.alloc (Obj.cells #[.int .i64 a2,.int .i64 (wrap64 (a3 - 1))] 73) = W3 at HX HZ2 HQ2 HB2 ⊢
   generalize wr.heap.size = gx at HX n1 ⊢
   clear HZ HQ HB
   obtain ⟨q0,q1,q2,q3⟩:=shapesearchref14_Before.ld HQ2.out
   obtain ⟨x0,x1,-,-⟩:=shapesearchref14_Before.ld HX.out
   have HA:=A_ (fun n_ : Nat=>Calls.quiet_of (n:=n_) (v:=.int .i64 u1) ((shapesearchref14_At.calls A0 c0 l0 a1 a2 (wrap64 (a3 - 1)) u1 (W3.drewN n_) (cl HR0.out (pw_below_drewN HB2.out n_)) HC0.out HU1.out).mono fun e w' ⟨h1,m,hm⟩=>⟨h1,m,hm⟩))
   have HV:=A_ (fun n_ : Nat=>Calls.quiet_of (n:=n_) (v:=.int .i64 v1) ((shapesearchref14_At.calls A0 c0 l0 a1 c1 c2 v1 (W3.drewN n_) (cl HR0.out (pw_below_drewN HB2.out n_)) HC0.out HV1.out).mono fun e w' ⟨h1,m,hm⟩=>⟨h1,m,hm⟩))
   have HE:=A_ HE2.out
   go_quiet (first|(go_at_call 60;with_reducible exact HA.out _)|(go_at_call 60;with_reducible exact HV.out _))
   clear HA HV
   by_cases hlt : u1 < v1
   case pos =>
    have d1 : decide (u1 < v1) = true:=decide_eq_true hlt
    have hE:=HE.out
    rw [if_pos hlt] at hE
    have HE3:=A_ (Prod.mk.inj hE)
    rw [d1]
    clear hlt hE HE d1
    go_wp2_with fail
    go_roundg 0
    case measure=>omega
    case rel=>exact ⟨2,a2,(wrap64 (a3 - 1)),by omega,by first|rfl|simp,⟨Or.inr (Or.inr ⟨rfl,HE3.out.1,HE3.out.2⟩)⟩,⟨shapesearchref14_Before.fa (w:=W3.drewN nq) _ _ (by omega) (blk_drewN HZ2.out nq)⟩,⟨shapesearchref14_Before.st (w:=W3.drewN nq) _ _ (blk_drewN HQ2.out nq)⟩,⟨shapesearchref14_Before.be (W:=W3.drewN nq) _ _ (by omega) (pw_below_drewN HB2.out nq)⟩⟩
   case neg =>
    have d1 : decide (u1 < v1) = false:=decide_eq_false hlt
    have hE:=HE.out
    rw [if_neg hlt] at hE
    have HE3:=A_ (Prod.mk.inj hE)
    rw [d1]
    clear hlt hE HE d1
    go_wp2_with fail
    go_roundg 0
    case measure=>omega
    case rel=>exact ⟨2,c1,c2,by omega,by first|rfl|simp,⟨Or.inr (Or.inr ⟨rfl,HE3.out.1,HE3.out.2⟩)⟩,⟨blk_drewN HZ2.out nq⟩,⟨blk_drewN HQ2.out nq⟩,⟨pw_below_drewN HB2.out nq⟩⟩

end Go.Proofs.Ytodipcfbgnljeaa.PChannelsPaths
