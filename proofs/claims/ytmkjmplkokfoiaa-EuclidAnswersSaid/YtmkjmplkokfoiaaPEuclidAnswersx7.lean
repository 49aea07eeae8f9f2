/- This file proves, function by function, what the Go functions that one law uses compute; most of it was printed by a program (wip/tools of this session, over the kit's print). -/
import Derived.Test.YtmkjmplkokfoiaaPEuclidAnswersx0
import Derived.Test.YtmkjmplkokfoiaaPEuclidAnswersx6
namespace Go.Proofs.Ytmkjmplkokfoiaa.PEuclidAnswers
open Go.RowKit Go.Proofs.YtmkjmplkokfoiaaW.PrintWords Go.Proofs.YtmkjmplkokfoiaaW.PrintLast Go.Proofs.YtmkjmplkokfoiaaW.PrintMore
attribute [local go_sem] max2_int min2_int max_two min_two max_three min_three max_four min_four   -- for this text's walks alone
set_option linter.unusedVariables false
set_option linter.unusedSimpArgs false

/-! ### shapesearchref12_sums: function 42 -/
def shapesearchref12_sums.l0 : Nat → List Int → List Int → Int → Int → Int → Int → Option (Int × Int)
 | 0,_,_,_,_,_,_=>none
 | k + 1,x0,x1,x6,x7,x10,x11=>if x11 < x10 then (if 0 ≤ x11 then (if x11 < (x0.length : Int) then (if x11 < (x1.length : Int) then (shapesearchref12_sums.l0 k x0 x1 (wrap64 ((wrap64 (x6 + (rd x0 x11))) - (rd x1 x11))) (wrap64 (x7 + (wrap64 ((wrap64 ((rd x0 x11) - (rd x1 x11))) * (wrap64 ((rd x0 x11) - (rd x1 x11))))))) x10 (wrap64 (x11 + 1))) else (none)) else (none)) else (none)) else (some (x6,x7))
def shapesearchref12_sums.f (k : Nat) (l0 : List Int) (l1 : List Int) : Option (Int × Int):=shapesearchref12_sums.l0 k l0 l1 0 0 (l0.length : Int) 0
theorem shapesearchref12_sums.mono_l : ∀ k,(∀ y0 y1 y2 y3 y4 y5,LeO (shapesearchref12_sums.l0 k y0 y1 y2 y3 y4 y5) (shapesearchref12_sums.l0 (k + 1) y0 y1 y2 y3 y4 y5))
 | 0=>fun _ _ _ _ _ _ r h=>by simp [shapesearchref12_sums.l0] at h
 | k + 1=>by
  have ih0:=shapesearchref12_sums.mono_l k
  ·
   intro y0 y1 y2 y3 y4 y5
   unfold shapesearchref12_sums.l0
   repeat' first
   | (with_reducible exact ih0 _ _ _ _ _ _)
   | (with_reducible exact LeO.refl _)
   | (with_reducible exact LeO.none _)
   | (with_reducible refine LeO.ite ?_ ?_)
   | (with_reducible refine LeO.bind ?_ (fun _=>?_))
   | exact ih0 _ _ _ _ _ _
   | exact LeO.none _
   | refine LeO.ite ?_ ?_
   | refine LeO.bind ?_ (fun _=>?_)
theorem shapesearchref12_sums.mono : ∀ a0 a1 k,LeO (shapesearchref12_sums.f k a0 a1) (shapesearchref12_sums.f (k + 1) a0 a1):=by
 intro a0 a1 k
 have ih0:=shapesearchref12_sums.mono_l k
 unfold shapesearchref12_sums.f
 repeat' first
   | (with_reducible exact ih0 _ _ _ _ _ _)
   | (with_reducible exact LeO.refl _)
   | (with_reducible exact LeO.none _)
   | (with_reducible refine LeO.ite ?_ ?_)
   | (with_reducible refine LeO.bind ?_ (fun _=>?_))
   | exact ih0 _ _ _ _ _ _
   | exact LeO.none _
   | refine LeO.ite ?_ ?_
   | refine LeO.bind ?_ (fun _=>?_)
set_option maxHeartbeats 8000000 in
set_option maxRecDepth 100000 in
theorem shapesearchref12_sums.calls (k : Nat) (A0 : Option Addr) (c0 : Nat) (l0 : List Int) (A1 : Option Addr) (c1 : Nat) (l1 : List Int) (r1 : Int) (r2 : Int) (w : World) (hr0 : Kd.C (Kd.int .i64) w A0 l0.length l0) (hc0 : l0.length ≤ c0) (hr1 : Kd.C (Kd.int .i64) w A1 l1.length l1) (hc1 : l1.length ≤ c1) (h : shapesearchref12_sums.f k l0 l1 = some (r1,r2)) :
  Calls Try.prog 42 #[.slice A0 l0.length c0,.slice A1 l1.length c1] w fun e w'=>e = .returned (.tuple #[.int .i64 r1,.int .i64 r2])∧Drawn0 w w':=by
 have HR0:=A_ hr0
 have HC0:=A_ hc0
 clear hr0 hc0
 have HR1:=A_ hr1
 have HC1:=A_ hc1
 clear hr1 hc1
 have H : (shapesearchref12_sums.l0 k l0 l1 0 0 (l0.length : Int) 0) = some (r1,r2):=h
 clear h
 have H':=A_ H
 clear H
 go_enter Try.func42,Try.ntmps42
 go_wp2
 repeat (go_quiet (fail);try go_wp2)
 go_loopg [6,7,11] k (fun kq v6 v7 v11 w'=>∃ (x6_1 : Int) (x7_1 : Int) (x11_1 : Int),v6 = .int .i64 x6_1∧v7 = .int .i64 x7_1∧v11 = .int .i64 x11_1∧Aside0 (shapesearchref12_sums.l0 kq l0 l1 x6_1 x7_1 (l0.length : Int) x11_1 = some (r1,r2))∧Aside0 (kq ≤ k)∧Drawn0 w w')
 case atStart=>exact ⟨(0),(0),(0),(by first|rfl|(simp;done)|(simp [*];done)),(by first|rfl|(simp;done)|(simp [*];done)),(by first|rfl|(simp;done)|(simp [*];done)),H',⟨Nat.le_refl _⟩,by repeat (first|exact Drawn0.refl _|apply Drawn0.step)⟩
 case round =>
  clear H'
  try clear c1
  try clear p2
  obtain ⟨x6_1,x7_1,x11_1,rfl,rfl,rfl,HA,HK1,⟨m1,rfl⟩⟩:=hrel
  cases gk with
  | zero=>exact absurd HA.out (by simp [shapesearchref12_sums.l0])
  | succ k1 =>
   have H:=HA.out
   clear HA
   simp only [shapesearchref12_sums.l0] at H
   by_cases c3 : x11_1 < (l0.length : Int)
   ·
    rw [if_pos c3] at H
    have c3b0 : decide (x11_1 < (l0.length : Int)) = true:=decide_eq_true c3
    clear c3
    by_cases c4 : 0 ≤ x11_1
    ·
     rw [if_pos c4] at H
     have c4b0 : decide (0 ≤ x11_1) = true:=decide_eq_true c4
     clear c4
     by_cases c5 : x11_1 < (l0.length : Int)
     ·
      rw [if_pos c5] at H
      have c5b0 : decide (x11_1 < (l0.length : Int)) = true:=decide_eq_true c5
      clear c5
      by_cases c6 : x11_1 < (l1.length : Int)
      ·
       rw [if_pos c6] at H
       have c6b0 : decide (x11_1 < (l1.length : Int)) = true:=decide_eq_true c6
       clear c6
       have H':=A_ H
       clear H
       have p296 : 0 ≤ (x11_1 : Int):=of_decide_eq_true (by first|(with_reducible assumption)|assumption)
       have q296 : x11_1 < (l0.length : Int):=of_decide_eq_true (by first|(with_reducible assumption)|assumption)
       obtain ⟨ad296,e296,hx296_0⟩:=Kd.at_int HR0.out x11_1 p296 q296
       cases e296
       replace p296:=eq_true p296
       replace q296:=eq_true q296
       have p297 : 0 ≤ (x11_1 : Int):=of_decide_eq_true (by first|(with_reducible assumption)|assumption)
       have q297 : x11_1 < (l1.length : Int):=of_decide_eq_true (by first|(with_reducible assumption)|assumption)
       obtain ⟨ad297,e297,hx297_0⟩:=Kd.at_int HR1.out x11_1 p297 q297
       cases e297
       replace p297:=eq_true p297
       replace q297:=eq_true q297
       have p298 : 0 ≤ (x11_1 : Int):=of_decide_eq_true (by first|(with_reducible assumption)|assumption)
       have q298 : x11_1 < (l0.length : Int):=of_decide_eq_true (by first|(with_reducible assumption)|assumption)
       obtain ⟨ad298,e298,hx298_0⟩:=Kd.at_int HR0.out x11_1 p298 q298
       obtain rfl : ad296 = ad298:=(by injection e298)
       replace p298:=eq_true p298
       replace q298:=eq_true q298
       have p299 : 0 ≤ (x11_1 : Int):=of_decide_eq_true (by first|(with_reducible assumption)|assumption)
       have q299 : x11_1 < (l1.length : Int):=of_decide_eq_true (by first|(with_reducible assumption)|assumption)
       obtain ⟨ad299,e299,hx299_0⟩:=Kd.at_int HR1.out x11_1 p299 q299
       obtain rfl : ad297 = ad299:=(by injection e299)
       replace p299:=eq_true p299
       replace q299:=eq_true q299
       have p300 : 0 ≤ (x11_1 : Int):=of_decide_eq_true (by first|(with_reducible assumption)|assumption)
       have q300 : x11_1 < (l0.length : Int):=of_decide_eq_true (by first|(with_reducible assumption)|assumption)
       obtain ⟨ad300,e300,hx300_0⟩:=Kd.at_int HR0.out x11_1 p300 q300
       obtain rfl : ad296 = ad300:=(by injection e300)
       replace p300:=eq_true p300
       replace q300:=eq_true q300
       have p301 : 0 ≤ (x11_1 : Int):=of_decide_eq_true (by first|(with_reducible assumption)|assumption)
       have q301 : x11_1 < (l1.length : Int):=of_decide_eq_true (by first|(with_reducible assumption)|assumption)
       obtain ⟨ad301,e301,hx301_0⟩:=Kd.at_int HR1.out x11_1 p301 q301
       obtain rfl : ad297 = ad301:=(by injection e301)
       replace p301:=eq_true p301
       replace q301:=eq_true q301
       go_wp2
       repeat (go_quiet (fail);try go_wp2)
       go_roundg k1
       case measure=>have:=HK1.out;omega
       case rel=>exact ⟨(wrap64 ((wrap64 (x6_1 + (rd l0 x11_1))) - (rd l1 x11_1))),(wrap64 (x7_1 + (wrap64 ((wrap64 ((rd l0 x11_1) - (rd l1 x11_1))) * (wrap64 ((rd l0 x11_1) - (rd l1 x11_1))))))),(wrap64 (x11_1 + 1)),(by first|rfl|(simp;done)|(simp [*];done)),(by first|rfl|(simp;done)|(simp [*];done)),(by first|rfl|(simp;done)|(simp [*];done)),H',⟨by have:=HK1.out;omega⟩,by repeat (first|exact Drawn0.refl _|apply Drawn0.step)⟩
      ·
       rw [if_neg c6] at H
       exact absurd H (by simp)
     ·
      rw [if_neg c5] at H
      exact absurd H (by simp)
    ·
     rw [if_neg c4] at H
     exact absurd H (by simp)
   ·
    rw [if_neg c3] at H
    have c3b0 : decide (x11_1 < (l0.length : Int)) = false:=decide_eq_false c3
    clear c3
    simp only [Option.some.injEq,Prod.mk.injEq] at H
    obtain ⟨rfl,rfl⟩:=H
    go_wp2
    repeat (go_quiet (fail);try go_wp2)
    go_ret2
    exact ⟨by first|rfl|(simp;done)|(simp [*];done),by repeat (first|exact Drawn0.refl _|apply Drawn0.step)⟩

/-! ### shapesearchref12_Distance: function 25 -/
def shapesearchref12_Distance.f (k : Nat) (l0 : List Int) (l1 : List Int) : Option (Int × Int):=(shapesearchref12_Two.f k l0 l1 0).bind fun t302=>(if t302 = 0 then ((shapesearchref12_sums.f k l0 l1).bind fun bt303=>(some (bt303.2,0))) else (some (0,t302)))
theorem shapesearchref12_Distance.mono : ∀ a0 a1 k,LeO (shapesearchref12_Distance.f k a0 a1) (shapesearchref12_Distance.f (k + 1) a0 a1):=by
 intro a0 a1 k
 unfold shapesearchref12_Distance.f
 repeat' first
   | (with_reducible exact shapesearchref12_Two.mono _ _ _ _)
   | (with_reducible exact shapesearchref12_sums.mono _ _ _)
   | (with_reducible exact LeO.refl _)
   | (with_reducible exact LeO.none _)
   | (with_reducible refine LeO.ite ?_ ?_)
   | (with_reducible refine LeO.bind ?_ (fun _=>?_))
   | exact shapesearchref12_Two.mono _ _ _ _
   | exact shapesearchref12_sums.mono _ _ _
   | exact LeO.none _
   | refine LeO.ite ?_ ?_
   | refine LeO.bind ?_ (fun _=>?_)
set_option maxHeartbeats 8000000 in
set_option maxRecDepth 100000 in
theorem shapesearchref12_Distance.calls (k : Nat) (A0 : Option Addr) (c0 : Nat) (l0 : List Int) (A1 : Option Addr) (c1 : Nat) (l1 : List Int) (r1 : Int) (r2 : Int) (w : World) (hr0 : Kd.C (Kd.int .i64) w A0 l0.length l0) (hc0 : l0.length ≤ c0) (hr1 : Kd.C (Kd.int .i64) w A1 l1.length l1) (hc1 : l1.length ≤ c1) (h : shapesearchref12_Distance.f k l0 l1 = some (r1,r2)) :
  Calls Try.prog 25 #[.slice A0 l0.length c0,.slice A1 l1.length c1] w fun e w'=>e = .returned (.tuple #[.int .i64 r1,.int .i64 r2])∧Drawn0 w w':=by
 have HR0:=A_ hr0
 have HC0:=A_ hc0
 clear hr0 hc0
 have HR1:=A_ hr1
 have HC1:=A_ hc1
 clear hr1 hc1
 have H : ((shapesearchref12_Two.f k l0 l1 0).bind fun t302=>(if t302 = 0 then ((shapesearchref12_sums.f k l0 l1).bind fun bt303=>(some (bt303.2,0))) else (some (0,t302)))) = some (r1,r2):=h
 clear h
 replace H:=Option.bind_eq_some_iff.mp H
 obtain ⟨t302,A30,H⟩:=H
 replace H : (if t302 = 0 then ((shapesearchref12_sums.f k l0 l1).bind fun bt303=>(some (bt303.2,0))) else (some (0,t302))) = some (r1,r2):=H
 have A3:=A_ A30
 clear A30
 by_cases c4 : t302 = 0
 ·
  rw [if_pos c4] at H
  have c4b0 : (t302 == 0) = true:=beq_iff_eq.mpr c4
  have c4b1 : (t302 != 0) = false:=bne_eq_false_iff_eq.mpr c4
  clear c4
  replace H:=Option.bind_eq_some_iff.mp H
  obtain ⟨⟨t303,t304⟩,A50,H⟩:=H
  replace H : (some (t304,0)) = some (r1,r2):=H
  have A5:=A_ A50
  clear A50
  simp only [Option.some.injEq,Prod.mk.injEq] at H
  obtain ⟨rfl,rfl⟩:=H
  go_enter Try.func25,Try.ntmps25
  go_wp2_with (first|((with_reducible refine gate_callee (f:=41) rfl ?_);refine goesL_ (some 11) rfl rfl Try.func41 (by kernel_rfl) rfl #[.slice A0 l0.length c0,.slice A1 l1.length c1,.int .i64 0] rfl (by (try simp only [List.map_toArray,List.map_cons,List.map_nil]);first|done|rfl|(simp only [List.length_drop,List.length_take];rfl)) ?_;(with_reducible refine (shapesearchref12_Two.calls k _ _ l0 _ _ l1 0 t302 _ ?side1 ?side2 ?side3 ?side4 A3.out).mono ?_);(case side1=>repeat (first|exact HR0.out|(with_reducible refine ca ?_ _)|(with_reducible refine cb ?_ _)|(with_reducible refine cc ?_)));(case side2=>exact HC0.out);(case side3=>repeat (first|exact HR1.out|(with_reducible refine ca ?_ _)|(with_reducible refine cb ?_ _)|(with_reducible refine cc ?_)));(case side4=>exact HC1.out);rintro e w' ⟨rfl,⟨nd,rfl⟩⟩;refine ⟨_,rfl,?_⟩)|((with_reducible refine gate_callee (f:=42) rfl ?_);refine goesL_ (some 18) rfl rfl Try.func42 (by kernel_rfl) rfl #[.slice A0 l0.length c0,.slice A1 l1.length c1] rfl (by (try simp only [List.map_toArray,List.map_cons,List.map_nil]);first|done|rfl|(simp only [List.length_drop,List.length_take];rfl)) ?_;(with_reducible refine (shapesearchref12_sums.calls k _ _ l0 _ _ l1 t303 t304 _ ?side1 ?side2 ?side3 ?side4 A5.out).mono ?_);(case side1=>repeat (first|exact HR0.out|(with_reducible refine ca ?_ _)|(with_reducible refine cb ?_ _)|(with_reducible refine cc ?_)));(case side2=>exact HC0.out);(case side3=>repeat (first|exact HR1.out|(with_reducible refine ca ?_ _)|(with_reducible refine cb ?_ _)|(with_reducible refine cc ?_)));(case side4=>exact HC1.out);rintro e w' ⟨rfl,⟨nd,rfl⟩⟩;refine ⟨_,rfl,?_⟩))
  go_ret2
  exact ⟨by first|rfl|(simp;done)|(simp [*];done),by repeat (first|exact Drawn0.refl _|apply Drawn0.step)⟩
 ·
  rw [if_neg c4] at H
  have c4b0 : (t302 == 0) = false:=beq_eq_false_iff_ne.mpr c4
  have c4b1 : (t302 != 0) = true:=bne_iff_ne.mpr c4
  simp only [Option.some.injEq,Prod.mk.injEq] at H
  obtain ⟨rfl,rfl⟩:=H
  go_enter Try.func25,Try.ntmps25
  go_wp2_with (first|((with_reducible refine gate_callee (f:=41) rfl ?_);refine goesL_ (some 11) rfl rfl Try.func41 (by kernel_rfl) rfl #[.slice A0 l0.length c0,.slice A1 l1.length c1,.int .i64 0] rfl (by (try simp only [List.map_toArray,List.map_cons,List.map_nil]);first|done|rfl|(simp only [List.length_drop,List.length_take];rfl)) ?_;(with_reducible refine (shapesearchref12_Two.calls k _ _ l0 _ _ l1 0 t302 _ ?side1 ?side2 ?side3 ?side4 A3.out).mono ?_);(case side1=>repeat (first|exact HR0.out|(with_reducible refine ca ?_ _)|(with_reducible refine cb ?_ _)|(with_reducible refine cc ?_)));(case side2=>exact HC0.out);(case side3=>repeat (first|exact HR1.out|(with_reducible refine ca ?_ _)|(with_reducible refine cb ?_ _)|(with_reducible refine cc ?_)));(case side4=>exact HC1.out);rintro e w' ⟨rfl,⟨nd,rfl⟩⟩;refine ⟨_,rfl,?_⟩))
  go_ret2
  exact ⟨by first|rfl|(simp;done)|(simp [*];done),by repeat (first|exact Drawn0.refl _|apply Drawn0.step)⟩

/-! ### shapesearchref01_common: function 47 -/
def shapesearchref01_common.l0 : Nat → Int → Int → Option (Int)
 | 0,_,_=>none
 | k + 1,x0,x1=>if x1 > 0 then (if x1 = 0 then (none) else (shapesearchref01_common.l0 k x1 (Int.tmod x0 x1))) else (some x0)
def shapesearchref01_common.f (k : Nat) (a0 : Int) (a1 : Int) : Option (Int):=shapesearchref01_common.l0 k a0 a1
theorem shapesearchref01_common.mono_l : ∀ k,(∀ y0 y1,LeO (shapesearchref01_common.l0 k y0 y1) (shapesearchref01_common.l0 (k + 1) y0 y1))
 | 0=>fun _ _ r h=>by simp [shapesearchref01_common.l0] at h
 | k + 1=>by
  have ih0:=shapesearchref01_common.mono_l k
  ·
   intro y0 y1
   unfold shapesearchref01_common.l0
   repeat' first
   | (with_reducible exact ih0 _ _)
   | (with_reducible exact LeO.refl _)
   | (with_reducible exact LeO.none _)
   | (with_reducible refine LeO.ite ?_ ?_)
   | (with_reducible refine LeO.bind ?_ (fun _=>?_))
   | exact ih0 _ _
   | exact LeO.none _
   | refine LeO.ite ?_ ?_
   | refine LeO.bind ?_ (fun _=>?_)
theorem shapesearchref01_common.mono : ∀ a0 a1 k,LeO (shapesearchref01_common.f k a0 a1) (shapesearchref01_common.f (k + 1) a0 a1):=by
 intro a0 a1 k
 have ih0:=shapesearchref01_common.mono_l k
 unfold shapesearchref01_common.f
 repeat' first
   | (with_reducible exact ih0 _ _)
   | (with_reducible exact LeO.refl _)
   | (with_reducible exact LeO.none _)
   | (with_reducible refine LeO.ite ?_ ?_)
   | (with_reducible refine LeO.bind ?_ (fun _=>?_))
   | exact ih0 _ _
   | exact LeO.none _
   | refine LeO.ite ?_ ?_
   | refine LeO.bind ?_ (fun _=>?_)
set_option maxHeartbeats 8000000 in
set_option maxRecDepth 100000 in
theorem shapesearchref01_common.calls (k : Nat) (a0 : Int) (a1 : Int) (r : Int) (w : World) (h : shapesearchref01_common.f k a0 a1 = some r) :
  Calls Try.prog 47 #[.int .i64 a0,.int .i64 a1] w fun e w'=>e = .returned (.int .i64 r)∧Drawn0 w w':=by
 have H : (shapesearchref01_common.l0 k a0 a1) = some r:=h
 clear h
 have H':=A_ H
 clear H
 go_enter Try.func47,Try.ntmps47
 go_wp2
 repeat (go_quiet (fail);try go_wp2)
 go_loopg [0,1] k (fun kq v0 v1 w'=>∃ (x0_1 : Int) (x1_1 : Int),v0 = .int .i64 x0_1∧v1 = .int .i64 x1_1∧Aside0 (shapesearchref01_common.l0 kq x0_1 x1_1 = some r)∧Aside0 (kq ≤ k)∧Drawn0 w w')
 case atStart=>exact ⟨(a0),(a1),(by first|rfl|(simp;done)|(simp [*];done)),(by first|rfl|(simp;done)|(simp [*];done)),H',⟨Nat.le_refl _⟩,by repeat (first|exact Drawn0.refl _|apply Drawn0.step)⟩
 case round =>
  clear H'
  try clear p2
  obtain ⟨x0_1,x1_1,rfl,rfl,HA,HK1,⟨m1,rfl⟩⟩:=hrel
  cases gk with
  | zero=>exact absurd HA.out (by simp [shapesearchref01_common.l0])
  | succ k1 =>
   have H:=HA.out
   clear HA
   simp only [shapesearchref01_common.l0] at H
   by_cases c3 : x1_1 > 0
   ·
    rw [if_pos c3] at H
    have c3b0 : decide (0 < x1_1) = true:=decide_eq_true c3
    clear c3
    by_cases c4 : x1_1 = 0
    ·
     rw [if_pos c4] at H
     exact absurd H (by simp)
    ·
     rw [if_neg c4] at H
     have c4b0 : (x1_1 == 0) = false:=beq_eq_false_iff_ne.mpr c4
     have c4b1 : (x1_1 != 0) = true:=bne_iff_ne.mpr c4
     have H':=A_ H
     clear H
     go_wp2
     repeat (go_quiet (fail);try go_wp2)
     go_roundg k1
     case measure=>have:=HK1.out;omega
     case rel=>exact ⟨(x1_1),(Int.tmod x0_1 x1_1),(by first|rfl|(simp;done)|(simp [*];done)),(by first|rfl|(simp;done)|(simp [*];done)),H',⟨by have:=HK1.out;omega⟩,by repeat (first|exact Drawn0.refl _|apply Drawn0.step)⟩
   ·
    rw [if_neg c3] at H
    have c3b0 : decide (0 < x1_1) = false:=decide_eq_false c3
    clear c3
    obtain rfl:=Option.some.inj H
    go_wp2
    repeat (go_quiet (fail);try go_wp2)
    go_ret
    exact ⟨by first|rfl|(simp;done)|(simp [*];done),by repeat (first|exact Drawn0.refl _|apply Drawn0.step)⟩

/-! ### shapesearchref01_Valid: function 35 -/
def shapesearchref01_Valid.f (k : Nat) (a0_0 : Int) (a0_1 : Int) : Option (Bool):=if a0_0 ≥ 0 then (if a0_0 ≤ 2305843009213693952 then (if a0_1 ≥ 1 then (if a0_1 ≤ 1152921504606846976 then ((shapesearchref01_common.f k a0_0 a0_1).bind fun t306=>(some (t306 == 1))) else (some false)) else (some false)) else (some false)) else (some false)
theorem shapesearchref01_Valid.mono : ∀ a0 a1 k,LeO (shapesearchref01_Valid.f k a0 a1) (shapesearchref01_Valid.f (k + 1) a0 a1):=by
 intro a0 a1 k
 unfold shapesearchref01_Valid.f
 repeat' first
   | (with_reducible exact shapesearchref01_common.mono _ _ _)
   | (with_reducible exact LeO.refl _)
   | (with_reducible exact LeO.none _)
   | (with_reducible refine LeO.ite ?_ ?_)
   | (with_reducible refine LeO.bind ?_ (fun _=>?_))
   | exact shapesearchref01_common.mono _ _ _
   | exact LeO.none _
   | refine LeO.ite ?_ ?_
   | refine LeO.bind ?_ (fun _=>?_)
set_option maxHeartbeats 8000000 in
set_option maxRecDepth 100000 in
theorem shapesearchref01_Valid.calls (k : Nat) (a0_0 : Int) (a0_1 : Int) (r : Bool) (w : World) (h : shapesearchref01_Valid.f k a0_0 a0_1 = some r) :
  Calls Try.prog 35 #[.agg #[.int .i64 a0_0,.int .i64 a0_1]] w fun e w'=>e = .returned (.bool r)∧Below w.heap.size w w':=by
 have hu37:=Try.underlying37
 have HB:=A_ (Below.refl w.heap.size w)
 have H : (if a0_0 ≥ 0 then (if a0_0 ≤ 2305843009213693952 then (if a0_1 ≥ 1 then (if a0_1 ≤ 1152921504606846976 then ((shapesearchref01_common.f k a0_0 a0_1).bind fun t306=>(some (t306 == 1))) else (some false)) else (some false)) else (some false)) else (some false)) = some r:=h
 clear h
 by_cases c2 : a0_0 ≥ 0
 ·
  rw [if_pos c2] at H
  have c2b0 : decide (0 ≤ a0_0) = true:=decide_eq_true c2
  clear c2
  by_cases c3 : a0_0 ≤ 2305843009213693952
  ·
   rw [if_pos c3] at H
   have c3b0 : decide (a0_0 ≤ 2305843009213693952) = true:=decide_eq_true c3
   clear c3
   by_cases c4 : a0_1 ≥ 1
   ·
    rw [if_pos c4] at H
    have c4b0 : decide (1 ≤ a0_1) = true:=decide_eq_true c4
    clear c4
    by_cases c5 : a0_1 ≤ 1152921504606846976
    ·
     rw [if_pos c5] at H
     have c5b0 : decide (a0_1 ≤ 1152921504606846976) = true:=decide_eq_true c5
     clear c5
     replace H:=Option.bind_eq_some_iff.mp H
     obtain ⟨t306,A60,H⟩:=H
     replace H : (some (t306 == 1)) = some r:=H
     have A6:=A_ A60
     clear A60
     obtain rfl:=Option.some.inj H
     go_enter Try.func35,Try.ntmps35
     go_wp2_with (first|((with_reducible refine gate_dst (N:=1) rfl ?_);refine box_event ?hg (N:=1) ?hd (cs:=#[.int .i64 a0_0,.int .i64 a0_1]) (t:=37) ?hr ?_;(case hd=>rfl);(case hg=>rfl);(case hr=>first|(go_simp;done)|(go_simp;rfl));intro gb305 hg w7 hbox hb;have n0_:=A_ (below_step (by repeat (first|(with_reducible first|exact HB.out|apply ba|apply bb|apply bc)|exact HB.out)) hb);have n1_:=A_ (hbox);have n2_:=A_ ((by rw [hg];exact (below_size (by repeat (first|(with_reducible first|exact HB.out|apply ba|apply bb|apply bc)|exact HB.out))) : w.heap.size ≤ gb305));have n3_:=A_ ((by rw [hg];exact (below_size (by repeat (first|(with_reducible first|exact HB.out|apply ba|apply bb|apply bc)|exact HB.out))) : w.heap.size ≤ gb305));clear HB;have HB:=n0_;have BK305:=n1_;have GW305:=n2_;have GE305:=n3_;clear n0_ n1_ n2_ n3_;clear hb hbox hg;have hcz8_0 : w7.cell? ⟨gb305,0,none⟩ = some (.int .i64 a0_0):=(blk_cell BK305.out 0).trans rfl;have hcz8_1 : w7.cell? ⟨gb305,1,none⟩ = some (.int .i64 a0_1):=(blk_cell BK305.out 1).trans rfl;have hfz8_0:=blk_frozen BK305.out 0;have hfz8_1:=blk_frozen BK305.out 1)|(go_at_call 47;(with_reducible refine (shapesearchref01_common.calls k a0_0 a0_1 t306 _ A6.out).mono ?_);rintro e w' ⟨rfl,⟨nd,rfl⟩⟩))
     go_ret
     exact ⟨by first|rfl|(simp [errW_none,errW_some] <;> rfl)|(simp [*,errW_none,errW_some] <;> rfl),by repeat (first|(with_reducible first|exact HB.out|apply ba|apply bb|apply bc|refine below_set ?_ GE305.out)|exact HB.out)⟩
    ·
     rw [if_neg c5] at H
     have c5b0 : decide (a0_1 ≤ 1152921504606846976) = false:=decide_eq_false c5
     clear c5
     obtain rfl:=Option.some.inj H
     go_enter Try.func35,Try.ntmps35
     go_wp2_with (first|((with_reducible refine gate_dst (N:=1) rfl ?_);refine box_event ?hg (N:=1) ?hd (cs:=#[.int .i64 a0_0,.int .i64 a0_1]) (t:=37) ?hr ?_;(case hd=>rfl);(case hg=>rfl);(case hr=>first|(go_simp;done)|(go_simp;rfl));intro gb305 hg w9 hbox hb;have n0_:=A_ (below_step (by repeat (first|(with_reducible first|exact HB.out|apply ba|apply bb|apply bc)|exact HB.out)) hb);have n1_:=A_ (hbox);have n2_:=A_ ((by rw [hg];exact (below_size (by repeat (first|(with_reducible first|exact HB.out|apply ba|apply bb|apply bc)|exact HB.out))) : w.heap.size ≤ gb305));have n3_:=A_ ((by rw [hg];exact (below_size (by repeat (first|(with_reducible first|exact HB.out|apply ba|apply bb|apply bc)|exact HB.out))) : w.heap.size ≤ gb305));clear HB;have HB:=n0_;have BK305:=n1_;have GW305:=n2_;have GE305:=n3_;clear n0_ n1_ n2_ n3_;clear hb hbox hg;have hcz10_0 : w9.cell? ⟨gb305,0,none⟩ = some (.int .i64 a0_0):=(blk_cell BK305.out 0).trans rfl;have hcz10_1 : w9.cell? ⟨gb305,1,none⟩ = some (.int .i64 a0_1):=(blk_cell BK305.out 1).trans rfl;have hfz10_0:=blk_frozen BK305.out 0;have hfz10_1:=blk_frozen BK305.out 1))
     go_ret
     exact ⟨by first|rfl|(simp [errW_none,errW_some] <;> rfl)|(simp [*,errW_none,errW_some] <;> rfl),by repeat (first|(with_reducible first|exact HB.out|apply ba|apply bb|apply bc|refine below_set ?_ GE305.out)|exact HB.out)⟩
   ·
    rw [if_neg c4] at H
    have c4b0 : decide (1 ≤ a0_1) = false:=decide_eq_false c4
    clear c4
    obtain rfl:=Option.some.inj H
    go_enter Try.func35,Try.ntmps35
    go_wp2_with (first|((with_reducible refine gate_dst (N:=1) rfl ?_);refine box_event ?hg (N:=1) ?hd (cs:=#[.int .i64 a0_0,.int .i64 a0_1]) (t:=37) ?hr ?_;(case hd=>rfl);(case hg=>rfl);(case hr=>first|(go_simp;done)|(go_simp;rfl));intro gb305 hg w11 hbox hb;have n0_:=A_ (below_step (by repeat (first|(with_reducible first|exact HB.out|apply ba|apply bb|apply bc)|exact HB.out)) hb);have n1_:=A_ (hbox);have n2_:=A_ ((by rw [hg];exact (below_size (by repeat (first|(with_reducible first|exact HB.out|apply ba|apply bb|apply bc)|exact HB.out))) : w.heap.size ≤ gb305));have n3_:=A_ ((by rw [hg];exact (below_size (by repeat (first|(with_reducible first|exact HB.out|apply ba|apply bb|apply bc)|exact HB.out))) : w.heap.size ≤ gb305));clear HB;have HB:=n0_;have BK305:=n1_;have GW305:=n2_;have GE305:=n3_;clear n0_ n1_ n2_ n3_;clear hb hbox hg;have hcz12_0 : w11.cell? ⟨gb305,0,none⟩ = some (.int .i64 a0_0):=(blk_cell BK305.out 0).trans rfl;have hcz12_1 : w11.cell? ⟨gb305,1,none⟩ = some (.int .i64 a0_1):=(blk_cell BK305.out 1).trans rfl;have hfz12_0:=blk_frozen BK305.out 0;have hfz12_1:=blk_frozen BK305.out 1))
    go_ret
    exact ⟨by first|rfl|(simp [errW_none,errW_some] <;> rfl)|(simp [*,errW_none,errW_some] <;> rfl),by repeat (first|(with_reducible first|exact HB.out|apply ba|apply bb|apply bc|refine below_set ?_ GE305.out)|exact HB.out)⟩
  ·
   rw [if_neg c3] at H
   have c3b0 : decide (a0_0 ≤ 2305843009213693952) = false:=decide_eq_false c3
   clear c3
   obtain rfl:=Option.some.inj H
   go_enter Try.func35,Try.ntmps35
   go_wp2_with (first|((with_reducible refine gate_dst (N:=1) rfl ?_);refine box_event ?hg (N:=1) ?hd (cs:=#[.int .i64 a0_0,.int .i64 a0_1]) (t:=37) ?hr ?_;(case hd=>rfl);(case hg=>rfl);(case hr=>first|(go_simp;done)|(go_simp;rfl));intro gb305 hg w13 hbox hb;have n0_:=A_ (below_step (by repeat (first|(with_reducible first|exact HB.out|apply ba|apply bb|apply bc)|exact HB.out)) hb);have n1_:=A_ (hbox);have n2_:=A_ ((by rw [hg];exact (below_size (by repeat (first|(with_reducible first|exact HB.out|apply ba|apply bb|apply bc)|exact HB.out))) : w.heap.size ≤ gb305));have n3_:=A_ ((by rw [hg];exact (below_size (by repeat (first|(with_reducible first|exact HB.out|apply ba|apply bb|apply bc)|exact HB.out))) : w.heap.size ≤ gb305));clear HB;have HB:=n0_;have BK305:=n1_;have GW305:=n2_;have GE305:=n3_;clear n0_ n1_ n2_ n3_;clear hb hbox hg;have hcz14_0 : w13.cell? ⟨gb305,0,none⟩ = some (.int .i64 a0_0):=(blk_cell BK305.out 0).trans rfl;have hcz14_1 : w13.cell? ⟨gb305,1,none⟩ = some (.int .i64 a0_1):=(blk_cell BK305.out 1).trans rfl;have hfz14_0:=blk_frozen BK305.out 0;have hfz14_1:=blk_frozen BK305.out 1))
   go_ret
   exact ⟨by first|rfl|(simp [errW_none,errW_some] <;> rfl)|(simp [*,errW_none,errW_some] <;> rfl),by repeat (first|(with_reducible first|exact HB.out|apply ba|apply bb|apply bc|refine below_set ?_ GE305.out)|exact HB.out)⟩
 ·
  rw [if_neg c2] at H
  have c2b0 : decide (0 ≤ a0_0) = false:=decide_eq_false c2
  clear c2
  obtain rfl:=Option.some.inj H
  go_enter Try.func35,Try.ntmps35
  go_wp2_with (first|((with_reducible refine gate_dst (N:=1) rfl ?_);refine box_event ?hg (N:=1) ?hd (cs:=#[.int .i64 a0_0,.int .i64 a0_1]) (t:=37) ?hr ?_;(case hd=>rfl);(case hg=>rfl);(case hr=>first|(go_simp;done)|(go_simp;rfl));intro gb305 hg w15 hbox hb;have n0_:=A_ (below_step (by repeat (first|(with_reducible first|exact HB.out|apply ba|apply bb|apply bc)|exact HB.out)) hb);have n1_:=A_ (hbox);have n2_:=A_ ((by rw [hg];exact (below_size (by repeat (first|(with_reducible first|exact HB.out|apply ba|apply bb|apply bc)|exact HB.out))) : w.heap.size ≤ gb305));have n3_:=A_ ((by rw [hg];exact (below_size (by repeat (first|(with_reducible first|exact HB.out|apply ba|apply bb|apply bc)|exact HB.out))) : w.heap.size ≤ gb305));clear HB;have HB:=n0_;have BK305:=n1_;have GW305:=n2_;have GE305:=n3_;clear n0_ n1_ n2_ n3_;clear hb hbox hg;have hcz16_0 : w15.cell? ⟨gb305,0,none⟩ = some (.int .i64 a0_0):=(blk_cell BK305.out 0).trans rfl;have hcz16_1 : w15.cell? ⟨gb305,1,none⟩ = some (.int .i64 a0_1):=(blk_cell BK305.out 1).trans rfl;have hfz16_0:=blk_frozen BK305.out 0;have hfz16_1:=blk_frozen BK305.out 1))
  go_ret
  exact ⟨by first|rfl|(simp [errW_none,errW_some] <;> rfl)|(simp [*,errW_none,errW_some] <;> rfl),by repeat (first|(with_reducible first|exact HB.out|apply ba|apply bb|apply bc|refine below_set ?_ GE305.out)|exact HB.out)⟩

/-! ### shapesearchref01_Make: function 43 -/
def shapesearchref01_Make.j0 : Nat → Int → Int → Bool → Option (Int × Int × Int)
 | 0,_,_,_=>none
 | k + 1,x0,x1,x13=>if x13 = true then (some (0,0,1)) else ((shapesearchref01_common.f k x0 x1).bind fun t308=>(if t308 = 0 then (none) else ((shapesearchref01_Valid.f k (wrap64 (Int.tdiv x0 t308)) (wrap64 (Int.tdiv x1 t308))).bind fun t310=>(if t310 = true then (some (wrap64 (Int.tdiv x0 t308),wrap64 (Int.tdiv x1 t308),0)) else (some (0,0,1))))))
def shapesearchref01_Make.f (k : Nat) (a0 : Int) (a1 : Int) : Option (Int × Int × Int):=if a0 < 0 then (shapesearchref01_Make.j0 k a0 a1 true) else (shapesearchref01_Make.j0 k a0 a1 (decide (a1 < 1)))
theorem shapesearchref01_Make.mono_l : ∀ k,(∀ y0 y1 y2,LeO (shapesearchref01_Make.j0 k y0 y1 y2) (shapesearchref01_Make.j0 (k + 1) y0 y1 y2))
 | 0=>fun _ _ _ r h=>by simp [shapesearchref01_Make.j0] at h
 | k + 1=>by
  have ih0:=shapesearchref01_Make.mono_l k
  ·
   intro y0 y1 y2
   unfold shapesearchref01_Make.j0
   repeat' first
   | (with_reducible exact ih0 _ _ _)
   | (with_reducible exact shapesearchref01_Valid.mono _ _ _)
   | (with_reducible exact shapesearchref01_common.mono _ _ _)
   | (with_reducible exact LeO.refl _)
   | (with_reducible exact LeO.none _)
   | (with_reducible refine LeO.ite ?_ ?_)
   | (with_reducible refine LeO.bind ?_ (fun _=>?_))
   | exact ih0 _ _ _
   | exact shapesearchref01_Valid.mono _ _ _
   | exact shapesearchref01_common.mono _ _ _
   | exact LeO.none _
   | refine LeO.ite ?_ ?_
   | refine LeO.bind ?_ (fun _=>?_)
theorem shapesearchref01_Make.mono : ∀ a0 a1 k,LeO (shapesearchref01_Make.f k a0 a1) (shapesearchref01_Make.f (k + 1) a0 a1):=by
 intro a0 a1 k
 have ih0:=shapesearchref01_Make.mono_l k
 unfold shapesearchref01_Make.f
 repeat' first
   | (with_reducible exact ih0 _ _ _)
   | (with_reducible exact shapesearchref01_Valid.mono _ _ _)
   | (with_reducible exact shapesearchref01_common.mono _ _ _)
   | (with_reducible exact LeO.refl _)
   | (with_reducible exact LeO.none _)
   | (with_reducible refine LeO.ite ?_ ?_)
   | (with_reducible refine LeO.bind ?_ (fun _=>?_))
   | exact ih0 _ _ _
   | exact shapesearchref01_Valid.mono _ _ _
   | exact shapesearchref01_common.mono _ _ _
   | exact LeO.none _
   | refine LeO.ite ?_ ?_
   | refine LeO.bind ?_ (fun _=>?_)
def shapesearchref01_Make.T4 : Bool × List (List Nat × List Nat):=(true,[([],[]),([],[]),([0,1],[0,1]),([],[]),([],[]),([3,4],[3,4]),([2,5],[2,5]),([],[]),([7,6,0,1,2,3,4,5,6,7],[6,7])])
def shapesearchref01_Make.B4 : List Nat:=[0,0,3,0,0,24,63,0,255]
theorem shapesearchref01_Make.tab4 : rtab .any (opsOf Try.f43 4) = shapesearchref01_Make.T4:=by kernel_rfl
theorem shapesearchref01_Make.bits4 : waitsOk shapesearchref01_Make.T4.2 shapesearchref01_Make.B4 = true:=by kernel_rfl
set_option maxHeartbeats 8000000 in
set_option maxRecDepth 100000 in
theorem shapesearchref01_Make.calls (k : Nat) (a0 : Int) (a1 : Int) (r1 : Int) (r2 : Int) (r3 : Int) (w : World) (h : shapesearchref01_Make.f k a0 a1 = some (r1,r2,r3)) :
  Calls Try.prog 43 #[.int .i64 a0,.int .i64 a1] w fun e w'=>e = .returned (.tuple #[.agg #[.int .i64 r1,.int .i64 r2],.int .i64 r3])∧Below w.heap.size w w':=by
 have hu37:=Try.underlying37
 have HB:=A_ (Below.refl w.heap.size w)
 have H : (if a0 < 0 then (shapesearchref01_Make.j0 k a0 a1 true) else (shapesearchref01_Make.j0 k a0 a1 (decide (a1 < 1)))) = some (r1,r2,r3):=h
 clear h
 have HC3:=A_ H
 clear H
 go_enter Try.func43,Try.ntmps43
 go_upto_region 1 with (first|((with_reducible refine gate_dst (N:=4) rfl ?_);refine box_event ?hg (N:=4) ?hd (cs:=#[.int .i64 0,.int .i64 0]) (t:=37) ?hr ?_;(case hd=>rfl);(case hg=>rfl);(case hr=>first|(go_simp;done)|(go_simp;rfl));intro gb307 hg w4 hbox hb;have n0_:=A_ (below_step (by repeat (first|(with_reducible first|exact HB.out|apply ba|apply bb|apply bc)|exact HB.out)) hb);have n1_:=A_ (hbox);have n2_:=A_ ((by rw [hg];exact (below_size (by repeat (first|(with_reducible first|exact HB.out|apply ba|apply bb|apply bc)|exact HB.out))) : w.heap.size ≤ gb307));have n3_:=A_ ((by rw [hg];exact (below_size (by repeat (first|(with_reducible first|exact HB.out|apply ba|apply bb|apply bc)|exact HB.out))) : w.heap.size ≤ gb307));clear HB;have HB:=n0_;have BK307:=n1_;have GW307:=n2_;have GE307:=n3_;clear n0_ n1_ n2_ n3_;clear hb hbox hg))
 (try simp only [Act.put,List.setIfInBounds_toArray,List.set_cons_zero,List.set_cons_succ])
 go_cut [13] (fun v13 wc=>∃ (kq : Nat) (x13_2 : Bool),v13 = .bool x13_2∧Aside0 (shapesearchref01_Make.j0 kq a0 a1 x13_2 = some (r1,r2,r3))∧Aside0 (kq ≤ k)∧Aside0 (wc.heap[gb307]? = some (.cells #[.int .i64 0,.int .i64 0] 37 (0,0)))∧Aside0 (Below w.heap.size w wc))
 case first =>
  have H:=HC3.out
  clear HC3
  by_cases c5 : a0 < 0
  ·
   rw [if_pos c5] at H
   have c5b0 : decide (a0 < 0) = true:=decide_eq_true c5
   clear c5
   (first|rw [c5b0]|(simp only [i64_w,i32_w];rw [c5b0])|skip)
   have H':=A_ H
   clear H
   go_wp2
   go_meet
   case rel=>exact ⟨_,(true),(by first|rfl|(simp;done)|(simp [*];done)),H',⟨by first|omega|exact Nat.le_refl _⟩,⟨by (with_reducible repeat (first|refine blk_drewN ?_ _|refine blk_drew ?_|refine blk_alloc ?_ _));exact BK307.out⟩,⟨by repeat (first|(with_reducible first|exact HB.out|apply ba|apply bb|apply bc|refine below_set ?_ GE307.out)|exact HB.out)⟩⟩
  ·
   rw [if_neg c5] at H
   have c5b0 : decide (a0 < 0) = false:=decide_eq_false c5
   clear c5
   (first|rw [c5b0]|(simp only [i64_w,i32_w];rw [c5b0])|skip)
   have H':=A_ H
   clear H
   go_wp2
   go_meet
   case rel=>exact ⟨_,(decide (a1 < 1)),(by first|rfl|(simp;done)|(simp [*];done)),H',⟨by first|omega|exact Nat.le_refl _⟩,⟨by (with_reducible repeat (first|refine blk_drewN ?_ _|refine blk_drew ?_|refine blk_alloc ?_ _));exact BK307.out⟩,⟨by repeat (first|(with_reducible first|exact HB.out|apply ba|apply bb|apply bc|refine below_set ?_ GE307.out)|exact HB.out)⟩⟩
 case rest =>
  clear HC3
  try clear p2
  try clear c4
  try clear c5
  try clear c5b0
  obtain ⟨kq,x13_2,rfl,HA,HJ2,BK307,HB⟩:=hcut
  cases kq with
  | zero=>exact absurd HA.out (by simp [shapesearchref01_Make.j0])
  | succ kj2 =>
   have H:=HA.out
   clear HA
   simp only [shapesearchref01_Make.j0] at H
   by_cases c6 : x13_2 = true
   ·
    subst c6
    have H1 : (some (0,0,1)) = some (r1,r2,r3):=by rw [if_pos rfl] at H;exact H
    clear H
    have H:=H1
    clear H1
    simp only [Option.some.injEq,Prod.mk.injEq] at H
    obtain ⟨rfl,rfl,rfl⟩:=H
    have hcz7_0 : wc.cell? ⟨gb307,0,none⟩ = some (.int .i64 0):=(blk_cell BK307.out 0).trans rfl
    have hcz7_1 : wc.cell? ⟨gb307,1,none⟩ = some (.int .i64 0):=(blk_cell BK307.out 1).trans rfl
    have hfz7_0:=blk_frozen BK307.out 0
    have hfz7_1:=blk_frozen BK307.out 1
    go_wp2
    refine bodyPost_ret (results_ct rfl _ _ gb307 37 #[.int .i64 0,.int .i64 0] (0,0) _ rfl (by (with_reducible repeat (first|refine blk_drewN ?_ _|refine blk_drew ?_|refine blk_alloc ?_ _));refine blk_put (cs:=#[.int .i64 0,.int .i64 0]) ?_ 1 _ rfl;(with_reducible repeat (first|refine blk_drewN ?_ _|refine blk_drew ?_|refine blk_alloc ?_ _));refine blk_put (cs:=#[.int .i64 0,.int .i64 0]) ?_ 0 _ rfl;(with_reducible repeat (first|refine blk_drewN ?_ _|refine blk_drew ?_|refine blk_alloc ?_ _));exact BK307.out) Try.underlying37 rfl (by kernel_rfl)) rfl ?_
    exact ⟨by first|rfl|(simp [errW_none,errW_some] <;> rfl)|(simp [*,errW_none,errW_some] <;> rfl),by repeat (first|(with_reducible first|exact HB.out|apply ba|apply bb|apply bc|refine below_set ?_ GE307.out)|exact HB.out)⟩
   ·
    replace c6:=Bool.eq_false_iff.mpr c6
    subst c6
    have H1 : ((shapesearchref01_common.f kj2 a0 a1).bind fun t308=>(if t308 = 0 then (none) else ((shapesearchref01_Valid.f kj2 (wrap64 (Int.tdiv a0 t308)) (wrap64 (Int.tdiv a1 t308))).bind fun t310=>(if t310 = true then (some (wrap64 (Int.tdiv a0 t308),wrap64 (Int.tdiv a1 t308),0)) else (some (0,0,1)))))) = some (r1,r2,r3):=by rw [if_neg (show ¬ (false = true) by decide)] at H;exact H
    clear H
    have H:=H1
    clear H1
    replace H:=Option.bind_eq_some_iff.mp H
    obtain ⟨t308,A80,H⟩:=H
    replace H : (if t308 = 0 then (none) else ((shapesearchref01_Valid.f kj2 (wrap64 (Int.tdiv a0 t308)) (wrap64 (Int.tdiv a1 t308))).bind fun t310=>(if t310 = true then (some (wrap64 (Int.tdiv a0 t308),wrap64 (Int.tdiv a1 t308),0)) else (some (0,0,1))))) = some (r1,r2,r3):=H
    have A8:=A_ A80
    clear A80
    by_cases c9 : t308 = 0
    ·
     rw [if_pos c9] at H
     exact absurd H (by simp)
    ·
     rw [if_neg c9] at H
     have c9b0 : (t308 == 0) = false:=beq_eq_false_iff_ne.mpr c9
     have c9b1 : (t308 != 0) = true:=bne_iff_ne.mpr c9
     replace H:=Option.bind_eq_some_iff.mp H
     obtain ⟨t310,A100,H⟩:=H
     replace H : (if t310 = true then (some (wrap64 (Int.tdiv a0 t308),wrap64 (Int.tdiv a1 t308),0)) else (some (0,0,1))) = some (r1,r2,r3):=H
     have A10:=A_ A100
     clear A100
     by_cases c11 : t310 = true
     ·
      subst c11
      have H1 : (some (wrap64 (Int.tdiv a0 t308),wrap64 (Int.tdiv a1 t308),0)) = some (r1,r2,r3):=by rw [if_pos rfl] at H;exact H
      clear H
      have H:=H1
      clear H1
      simp only [Option.some.injEq,Prod.mk.injEq] at H
      obtain ⟨rfl,rfl,rfl⟩:=H
      try go_wp2_with (first|((with_reducible refine gate_callee (f:=47) rfl ?_);refine goesL_ (some 17) rfl rfl Try.func47 (by kernel_rfl) rfl #[.int .i64 a0,.int .i64 a1] rfl (by (try simp only [List.map_toArray,List.map_cons,List.map_nil]);first|done|rfl|(simp only [List.length_drop,List.length_take];rfl)) ?_;(with_reducible refine (shapesearchref01_common.calls kj2 a0 a1 t308 _ A8.out).mono ?_);rintro e w' ⟨rfl,⟨nd,rfl⟩⟩;refine ⟨_,rfl,?_⟩;(try (rw [drewN_self wc];generalize hq_ : World.drewN wc _ = wc;have n0_ : Aside0 (wc.heap[gb307]? = some (.cells #[.int .i64 0,.int .i64 0] 37 (0,0))):=⟨by rw [← hq_];exact (by (with_reducible repeat (first|refine blk_drewN ?_ _|refine blk_drew ?_|refine blk_alloc ?_ _));exact BK307.out)⟩;have n1_ : Aside0 (Below w.heap.size w wc):=⟨by rw [← hq_];exact (by repeat (first|(with_reducible first|exact HB.out|apply ba|apply bb|apply bc|refine below_set ?_ GE307.out)|exact HB.out))⟩;clear BK307 HB hq_;have BK307:=n0_;have HB:=n1_;clear n0_ n1_))))
      (try (rw [drewN_self wc];generalize hq_ : World.drewN wc _ = wc;have n0_ : Aside0 (wc.heap[gb307]? = some (.cells #[.int .i64 0,.int .i64 0] 37 (0,0))):=⟨by rw [← hq_];exact (by (with_reducible repeat (first|refine blk_drewN ?_ _|refine blk_drew ?_|refine blk_alloc ?_ _));exact BK307.out)⟩;have n1_ : Aside0 (Below w.heap.size w wc):=⟨by rw [← hq_];exact (by repeat (first|(with_reducible first|exact HB.out|apply ba|apply bb|apply bc|refine below_set ?_ GE307.out)|exact HB.out))⟩;clear BK307 HB hq_;have BK307:=n0_;have HB:=n1_;clear n0_ n1_))
      have n0_:=A_ (blk_drew BK307.out)
      have n1_:=A_ (below_drew1 HB.out)
      clear BK307
      clear HB
      have BK307:=n0_
      have HB:=n1_
      clear n0_ n1_
      refine start_ (n:=9) (S:=fun w'=>True) (ds:=[]) #[false,false,false,false,false,false,false,false,false] (by kernel_rfl) rfl rfl trivial (fun hHeld=>?_);refine with_tabW shapesearchref01_Make.tab4 shapesearchref01_Make.bits4 (fun HT_ HW_=>?_)
      generalize wc.drew = w12 at BK307 HB hHeld ⊢
      refine pure_ (i:=0) (N:=some 18) (v:=?_) (a':=?_) #[true,false,false,false,false,false,false,false,false] rfl rfl (any_of HT_.out (by kernel_rfl)) (fun _ _ _ h=>h) (Or.inl ⟨by rfl,?_⟩) ?_ ?_
      rotate_left
      ·
       intro w'
       go_simp
       with_reducible rfl
      rotate_left
      ·
       simp only [Act.put,sa,sb,sc,i64_w,i32_w]
       rfl
      refine pure_ (i:=1) (N:=some 19) (v:=?_) (a':=?_) #[true,true,false,false,false,false,false,false,false] rfl rfl (any_of HT_.out (by kernel_rfl)) (fun _ _ _ h=>h) (Or.inl ⟨by rfl,?_⟩) ?_ ?_
      rotate_left
      ·
       intro w'
       go_simp
       with_reducible rfl
      rotate_left
      ·
       simp only [Act.put,sa,sb,sc,i64_w,i32_w]
       rfl
      refine pure_ (i:=2) (N:=some 20) (v:=?_) (a':=?_) #[true,true,true,false,false,false,false,false,false] rfl rfl (any_of HT_.out (by kernel_rfl)) (fun _ _ _ h=>h) (Or.inl ⟨by rfl,?_⟩) ?_ ?_
      rotate_left
      ·
       intro w'
       go_simp
       with_reducible rfl
      rotate_left
      ·
       simp only [Act.put,sa,sb,sc,i64_w,i32_w]
       rfl
      refine pure_ (i:=3) (N:=some 21) (v:=?_) (a':=?_) #[true,true,true,true,false,false,false,false,false] rfl rfl (any_of HT_.out (by kernel_rfl)) (fun _ _ _ h=>h) (Or.inl ⟨by rfl,?_⟩) ?_ ?_
      rotate_left
      ·
       intro w'
       go_simp
       with_reducible rfl
      rotate_left
      ·
       simp only [Act.put,sa,sb,sc,i64_w,i32_w]
       rfl
      refine pure_ (i:=4) (N:=some 22) (v:=?_) (a':=?_) #[true,true,true,true,true,false,false,false,false] rfl rfl (any_of HT_.out (by kernel_rfl)) (fun _ _ _ h=>h) (Or.inl ⟨by rfl,?_⟩) ?_ ?_
      rotate_left
      ·
       intro w'
       go_simp
       with_reducible rfl
      rotate_left
      ·
       simp only [Act.put,sa,sb,sc,i64_w,i32_w]
       rfl
      refine pure_ (i:=5) (N:=some 23) (v:=?_) (a':=?_) #[true,true,true,true,true,true,false,false,false] rfl rfl (any_of HT_.out (by kernel_rfl)) (fun _ _ _ h=>h) (Or.inl ⟨by rfl,?_⟩) ?_ ?_
      rotate_left
      ·
       intro w'
       go_simp
       with_reducible rfl
      rotate_left
      ·
       simp only [Act.put,sa,sb,sc,i64_w,i32_w]
       rfl
      refine pure_ (i:=6) (N:=some 24) (v:=?_) (a':=?_) #[true,true,true,true,true,true,true,false,false] rfl rfl (any_of HT_.out (by kernel_rfl)) (fun _ _ _ h=>h) (Or.inl ⟨by rfl,?_⟩) ?_ ?_
      rotate_left
      ·
       intro w'
       go_simp
       with_reducible rfl
      rotate_left
      ·
       simp only [Act.put,sa,sb,sc,i64_w,i32_w]
       rfl
      refine one_ (i:=7) (N:=some 7) #[true,true,true,true,true,true,true,true,false] rfl rfl (one_of HT_.out (by kernel_rfl)) (by decide) (fun K hK=>?_)
      refine box_step ?hg (N:=7) ?hd (cs:=#[.int .i64 0,.int .i64 0]) (t:=37) ?hr ?_;(case hd=>rfl);(case hg=>rfl);(case hr=>first|(go_simp;done)|(go_simp;rfl))
      intro gb309 hg w13 hbox hb
      have n0_:=A_ (blk_below (g:=gb307) (o:=.cells #[.int .i64 0,.int .i64 0] 37 (0,0)) (by (with_reducible repeat (first|refine blk_drewN ?_ _|refine blk_drew ?_|refine blk_alloc ?_ _));exact BK307.out) hb)
      have n1_:=A_ (below_step (by repeat (first|(with_reducible first|exact HB.out|apply ba|apply bb|apply bc|refine below_set ?_ GE307.out)|exact HB.out)) hb)
      have n2_:=A_ (hbox)
      have n3_:=A_ ((by rw [hg];exact (below_size (by repeat (first|(with_reducible first|exact HB.out|apply ba|apply bb|apply bc|refine below_set ?_ GE307.out)|exact HB.out))) : w.heap.size ≤ gb309))
      have n4_:=A_ ((by rw [hg];exact (below_size (by repeat (first|(with_reducible first|exact HB.out|apply ba|apply bb|apply bc|refine below_set ?_ GE307.out)|exact HB.out))) : w.heap.size ≤ gb309))
      have n5_:=A_ ((by rw [hg];exact Nat.ne_of_lt (blk_lt (g:=gb307) (o:=.cells #[.int .i64 0,.int .i64 0] 37 (0,0)) (by (with_reducible repeat (first|refine blk_drewN ?_ _|refine blk_drew ?_|refine blk_alloc ?_ _));exact BK307.out)) : gb307≠gb309))
      have n6_:=A_ ((by rw [hg];exact Nat.ne_of_gt (blk_lt (g:=gb307) (o:=.cells #[.int .i64 0,.int .i64 0] 37 (0,0)) (by (with_reducible repeat (first|refine blk_drewN ?_ _|refine blk_drew ?_|refine blk_alloc ?_ _));exact BK307.out)) : gb309≠gb307))
      clear BK307
      clear HB
      have BK307:=n0_
      have HB:=n1_
      have BK309:=n2_
      have GW309:=n3_
      have GE309:=n4_
      have NB307_309:=n5_
      have NB309_307:=n6_
      clear n0_ n1_ n2_ n3_ n4_ n5_ n6_
      clear hb hbox hg
      refine hK.out _ _ trivial (fun hHeld=>?_)
      clear hK K
      refine norm_ (a':=?_) ?_ ?_
      rotate_left
      ·
       show Act.put _ (some 7) _ = _
       simp only [Act.put,sa,sb,sc,i64_w,i32_w]
       rfl
      refine one_ (i:=8) (N:=none) #[true,true,true,true,true,true,true,true,true] rfl rfl (one_of HT_.out (by kernel_rfl)) (by decide) (fun K hK=>?_)
      have hs14 : w13.cell? ⟨gb309,0,none⟩ = some (.int .i64 0):=(blk_cell BK309.out 0).trans rfl
      have hfs14:=blk_frozen BK309.out 0
      have hns14_0:=NB307_309.out
      have hms14_0:=NB309_307.out
      have hs15 : w13.cell? ⟨gb309,1,none⟩ = some (.int .i64 0):=(blk_cell BK309.out 1).trans rfl
      have hfs15:=blk_frozen BK309.out 1
      have hns15_0:=NB307_309.out
      have hms15_0:=NB309_307.out
      refine skip_ (w1:=?_) (by rfl) rfl ?_ ?_
      rotate_left
      ·
       go_simp
       rfl
      refine hK.out _ _ trivial (fun hHeld=>?_)
      clear hK K
      refine done_ (done_of HT_.out (by kernel_rfl)) ?_
      have hnb16:=NB309_307.out
      have hnc16:=NB307_309.out
      have hcz17_0 : w13.cell? ⟨gb309,0,none⟩ = some (.int .i64 0):=(blk_cell BK309.out 0).trans rfl
      have hcz17_1 : w13.cell? ⟨gb309,1,none⟩ = some (.int .i64 0):=(blk_cell BK309.out 1).trans rfl
      have hfz17_0:=blk_frozen BK309.out 0
      have hfz17_1:=blk_frozen BK309.out 1
      try go_wp2_with (first|((with_reducible refine gate_callee (f:=35) rfl ?_);refine goesL_ (some 26) rfl rfl Try.func35 (by kernel_rfl) rfl #[.agg #[.int .i64 (wrap64 (Int.tdiv a0 t308)),.int .i64 (wrap64 (Int.tdiv a1 t308))]] rfl (by (try simp only [List.map_toArray,List.map_cons,List.map_nil]);first|done|rfl|(simp only [List.length_drop,List.length_take];rfl)) ?_;(with_reducible refine (shapesearchref01_Valid.calls kj2 (wrap64 (Int.tdiv a0 t308)) (wrap64 (Int.tdiv a1 t308)) true _ A10.out).mono ?_);rintro e w18 ⟨rfl,hb⟩;refine ⟨_,rfl,?_⟩;have n0_:=A_ (blk_below (g:=gb307) (o:=.cells #[.int .i64 0,.int .i64 0] 37 (0,0)) (by (with_reducible repeat (first|refine blk_drewN ?_ _|refine blk_drew ?_|refine blk_alloc ?_ _));refine blk_far ?_ NB307_309.out _;(with_reducible repeat (first|refine blk_drewN ?_ _|refine blk_drew ?_|refine blk_alloc ?_ _));refine blk_far ?_ NB307_309.out _;(with_reducible repeat (first|refine blk_drewN ?_ _|refine blk_drew ?_|refine blk_alloc ?_ _));exact BK307.out) hb);have n1_:=A_ (blk_below (g:=gb309) (o:=.cells #[.int .i64 (wrap64 (Int.tdiv a0 t308)),.int .i64 (wrap64 (Int.tdiv a1 t308))] 37 (0,0)) (by (with_reducible repeat (first|refine blk_drewN ?_ _|refine blk_drew ?_|refine blk_alloc ?_ _));refine blk_put (cs:=#[.int .i64 (wrap64 (Int.tdiv a0 t308)),.int .i64 0]) ?_ 1 _ rfl;(with_reducible repeat (first|refine blk_drewN ?_ _|refine blk_drew ?_|refine blk_alloc ?_ _));refine blk_put (cs:=#[.int .i64 0,.int .i64 0]) ?_ 0 _ rfl;(with_reducible repeat (first|refine blk_drewN ?_ _|refine blk_drew ?_|refine blk_alloc ?_ _));exact BK309.out) hb);have n2_:=A_ (below_step (by repeat (first|(with_reducible first|exact HB.out|apply ba|apply bb|apply bc|refine below_set ?_ GE307.out|refine below_set ?_ GE309.out)|exact HB.out)) hb);clear BK307;clear BK309;clear HB;have BK307:=n0_;have BK309:=n1_;have HB:=n2_;clear n0_ n1_ n2_;(try clear hb);(try clear hb2);(try clear hk);(try clear hi);have hcz19_0 : w18.cell? ⟨gb309,0,none⟩ = some (.int .i64 (wrap64 (Int.tdiv a0 t308))):=(blk_cell BK309.out 0).trans rfl;have hcz19_1 : w18.cell? ⟨gb309,1,none⟩ = some (.int .i64 (wrap64 (Int.tdiv a1 t308))):=(blk_cell BK309.out 1).trans rfl;have hfz19_0:=blk_frozen BK309.out 0;have hfz19_1:=blk_frozen BK309.out 1;have hcz20_0 : w18.cell? ⟨gb307,0,none⟩ = some (.int .i64 0):=(blk_cell BK307.out 0).trans rfl;have hcz20_1 : w18.cell? ⟨gb307,1,none⟩ = some (.int .i64 0):=(blk_cell BK307.out 1).trans rfl;have hfz20_0:=blk_frozen BK307.out 0;have hfz20_1:=blk_frozen BK307.out 1))
      refine bodyPost_ret (results_ct rfl _ _ gb307 37 #[.int .i64 (wrap64 (Int.tdiv a0 t308)),.int .i64 (wrap64 (Int.tdiv a1 t308))] (0,0) _ rfl (by (with_reducible repeat (first|refine blk_drewN ?_ _|refine blk_drew ?_|refine blk_alloc ?_ _));refine blk_put (cs:=#[.int .i64 (wrap64 (Int.tdiv a0 t308)),.int .i64 0]) ?_ 1 _ rfl;(with_reducible repeat (first|refine blk_drewN ?_ _|refine blk_drew ?_|refine blk_alloc ?_ _));refine blk_put (cs:=#[.int .i64 0,.int .i64 0]) ?_ 0 _ rfl;(with_reducible repeat (first|refine blk_drewN ?_ _|refine blk_drew ?_|refine blk_alloc ?_ _));exact BK307.out) Try.underlying37 rfl (by kernel_rfl)) rfl ?_
      exact ⟨by first|rfl|(simp [errW_none,errW_some] <;> rfl)|(simp [*,errW_none,errW_some] <;> rfl),by repeat (first|(with_reducible first|exact HB.out|apply ba|apply bb|apply bc|refine below_set ?_ GE307.out|refine below_set ?_ GE309.out)|exact HB.out)⟩
     ·
      replace c11:=Bool.eq_false_iff.mpr c11
      subst c11
      have H1 : (some (0,0,1)) = some (r1,r2,r3):=by rw [if_neg (show ¬ (false = true) by decide)] at H;exact H
      clear H
      have H:=H1
      clear H1
      simp only [Option.some.injEq,Prod.mk.injEq] at H
      obtain ⟨rfl,rfl,rfl⟩:=H
      try go_wp2_with (first|((with_reducible refine gate_callee (f:=47) rfl ?_);refine goesL_ (some 17) rfl rfl Try.func47 (by kernel_rfl) rfl #[.int .i64 a0,.int .i64 a1] rfl (by (try simp only [List.map_toArray,List.map_cons,List.map_nil]);first|done|rfl|(simp only [List.length_drop,List.length_take];rfl)) ?_;(with_reducible refine (shapesearchref01_common.calls kj2 a0 a1 t308 _ A8.out).mono ?_);rintro e w' ⟨rfl,⟨nd,rfl⟩⟩;refine ⟨_,rfl,?_⟩;(try (rw [drewN_self wc];generalize hq_ : World.drewN wc _ = wc;have n0_ : Aside0 (wc.heap[gb307]? = some (.cells #[.int .i64 0,.int .i64 0] 37 (0,0))):=⟨by rw [← hq_];exact (by (with_reducible repeat (first|refine blk_drewN ?_ _|refine blk_drew ?_|refine blk_alloc ?_ _));exact BK307.out)⟩;have n1_ : Aside0 (Below w.heap.size w wc):=⟨by rw [← hq_];exact (by repeat (first|(with_reducible first|exact HB.out|apply ba|apply bb|apply bc|refine below_set ?_ GE307.out)|exact HB.out))⟩;clear BK307 HB hq_;have BK307:=n0_;have HB:=n1_;clear n0_ n1_))))
      (try (rw [drewN_self wc];generalize hq_ : World.drewN wc _ = wc;have n0_ : Aside0 (wc.heap[gb307]? = some (.cells #[.int .i64 0,.int .i64 0] 37 (0,0))):=⟨by rw [← hq_];exact (by (with_reducible repeat (first|refine blk_drewN ?_ _|refine blk_drew ?_|refine blk_alloc ?_ _));exact BK307.out)⟩;have n1_ : Aside0 (Below w.heap.size w wc):=⟨by rw [← hq_];exact (by repeat (first|(with_reducible first|exact HB.out|apply ba|apply bb|apply bc|refine below_set ?_ GE307.out)|exact HB.out))⟩;clear BK307 HB hq_;have BK307:=n0_;have HB:=n1_;clear n0_ n1_))
      have n0_:=A_ (blk_drew BK307.out)
      have n1_:=A_ (below_drew1 HB.out)
      clear BK307
      clear HB
      have BK307:=n0_
      have HB:=n1_
      clear n0_ n1_
      refine start_ (n:=9) (S:=fun w'=>True) (ds:=[]) #[false,false,false,false,false,false,false,false,false] (by kernel_rfl) rfl rfl trivial (fun hHeld=>?_);refine with_tabW shapesearchref01_Make.tab4 shapesearchref01_Make.bits4 (fun HT_ HW_=>?_)
      generalize wc.drew = w21 at BK307 HB hHeld ⊢
      refine pure_ (i:=0) (N:=some 18) (v:=?_) (a':=?_) #[true,false,false,false,false,false,false,false,false] rfl rfl (any_of HT_.out (by kernel_rfl)) (fun _ _ _ h=>h) (Or.inl ⟨by rfl,?_⟩) ?_ ?_
      rotate_left
      ·
       intro w'
       go_simp
       with_reducible rfl
      rotate_left
      ·
       simp only [Act.put,sa,sb,sc,i64_w,i32_w]
       rfl
      refine pure_ (i:=1) (N:=some 19) (v:=?_) (a':=?_) #[true,true,false,false,false,false,false,false,false] rfl rfl (any_of HT_.out (by kernel_rfl)) (fun _ _ _ h=>h) (Or.inl ⟨by rfl,?_⟩) ?_ ?_
      rotate_left
      ·
       intro w'
       go_simp
       with_reducible rfl
      rotate_left
      ·
       simp only [Act.put,sa,sb,sc,i64_w,i32_w]
       rfl
      refine pure_ (i:=2) (N:=some 20) (v:=?_) (a':=?_) #[true,true,true,false,false,false,false,false,false] rfl rfl (any_of HT_.out (by kernel_rfl)) (fun _ _ _ h=>h) (Or.inl ⟨by rfl,?_⟩) ?_ ?_
      rotate_left
      ·
       intro w'
       go_simp
       with_reducible rfl
      rotate_left
      ·
       simp only [Act.put,sa,sb,sc,i64_w,i32_w]
       rfl
      refine pure_ (i:=3) (N:=some 21) (v:=?_) (a':=?_) #[true,true,true,true,false,false,false,false,false] rfl rfl (any_of HT_.out (by kernel_rfl)) (fun _ _ _ h=>h) (Or.inl ⟨by rfl,?_⟩) ?_ ?_
      rotate_left
      ·
       intro w'
       go_simp
       with_reducible rfl
      rotate_left
      ·
       simp only [Act.put,sa,sb,sc,i64_w,i32_w]
       rfl
      refine pure_ (i:=4) (N:=some 22) (v:=?_) (a':=?_) #[true,true,true,true,true,false,false,false,false] rfl rfl (any_of HT_.out (by kernel_rfl)) (fun _ _ _ h=>h) (Or.inl ⟨by rfl,?_⟩) ?_ ?_
      rotate_left
      ·
       intro w'
       go_simp
       with_reducible rfl
      rotate_left
      ·
       simp only [Act.put,sa,sb,sc,i64_w,i32_w]
       rfl
      refine pure_ (i:=5) (N:=some 23) (v:=?_) (a':=?_) #[true,true,true,true,true,true,false,false,false] rfl rfl (any_of HT_.out (by kernel_rfl)) (fun _ _ _ h=>h) (Or.inl ⟨by rfl,?_⟩) ?_ ?_
      rotate_left
      ·
       intro w'
       go_simp
       with_reducible rfl
      rotate_left
      ·
       simp only [Act.put,sa,sb,sc,i64_w,i32_w]
       rfl
      refine pure_ (i:=6) (N:=some 24) (v:=?_) (a':=?_) #[true,true,true,true,true,true,true,false,false] rfl rfl (any_of HT_.out (by kernel_rfl)) (fun _ _ _ h=>h) (Or.inl ⟨by rfl,?_⟩) ?_ ?_
      rotate_left
      ·
       intro w'
       go_simp
       with_reducible rfl
      rotate_left
      ·
       simp only [Act.put,sa,sb,sc,i64_w,i32_w]
       rfl
      refine one_ (i:=7) (N:=some 7) #[true,true,true,true,true,true,true,true,false] rfl rfl (one_of HT_.out (by kernel_rfl)) (by decide) (fun K hK=>?_)
      refine box_step ?hg (N:=7) ?hd (cs:=#[.int .i64 0,.int .i64 0]) (t:=37) ?hr ?_;(case hd=>rfl);(case hg=>rfl);(case hr=>first|(go_simp;done)|(go_simp;rfl))
      intro gb309 hg w22 hbox hb
      have n0_:=A_ (blk_below (g:=gb307) (o:=.cells #[.int .i64 0,.int .i64 0] 37 (0,0)) (by (with_reducible repeat (first|refine blk_drewN ?_ _|refine blk_drew ?_|refine blk_alloc ?_ _));exact BK307.out) hb)
      have n1_:=A_ (below_step (by repeat (first|(with_reducible first|exact HB.out|apply ba|apply bb|apply bc|refine below_set ?_ GE307.out)|exact HB.out)) hb)
      have n2_:=A_ (hbox)
      have n3_:=A_ ((by rw [hg];exact (below_size (by repeat (first|(with_reducible first|exact HB.out|apply ba|apply bb|apply bc|refine below_set ?_ GE307.out)|exact HB.out))) : w.heap.size ≤ gb309))
      have n4_:=A_ ((by rw [hg];exact (below_size (by repeat (first|(with_reducible first|exact HB.out|apply ba|apply bb|apply bc|refine below_set ?_ GE307.out)|exact HB.out))) : w.heap.size ≤ gb309))
      have n5_:=A_ ((by rw [hg];exact Nat.ne_of_lt (blk_lt (g:=gb307) (o:=.cells #[.int .i64 0,.int .i64 0] 37 (0,0)) (by (with_reducible repeat (first|refine blk_drewN ?_ _|refine blk_drew ?_|refine blk_alloc ?_ _));exact BK307.out)) : gb307≠gb309))
      have n6_:=A_ ((by rw [hg];exact Nat.ne_of_gt (blk_lt (g:=gb307) (o:=.cells #[.int .i64 0,.int .i64 0] 37 (0,0)) (by (with_reducible repeat (first|refine blk_drewN ?_ _|refine blk_drew ?_|refine blk_alloc ?_ _));exact BK307.out)) : gb309≠gb307))
      clear BK307
      clear HB
      have BK307:=n0_
      have HB:=n1_
      have BK309:=n2_
      have GW309:=n3_
      have GE309:=n4_
      have NB307_309:=n5_
      have NB309_307:=n6_
      clear n0_ n1_ n2_ n3_ n4_ n5_ n6_
      clear hb hbox hg
      refine hK.out _ _ trivial (fun hHeld=>?_)
      clear hK K
      refine norm_ (a':=?_) ?_ ?_
      rotate_left
      ·
       show Act.put _ (some 7) _ = _
       simp only [Act.put,sa,sb,sc,i64_w,i32_w]
       rfl
      refine one_ (i:=8) (N:=none) #[true,true,true,true,true,true,true,true,true] rfl rfl (one_of HT_.out (by kernel_rfl)) (by decide) (fun K hK=>?_)
      have hs23 : w22.cell? ⟨gb309,0,none⟩ = some (.int .i64 0):=(blk_cell BK309.out 0).trans rfl
      have hfs23:=blk_frozen BK309.out 0
      have hns23_0:=NB307_309.out
      have hms23_0:=NB309_307.out
      have hs24 : w22.cell? ⟨gb309,1,none⟩ = some (.int .i64 0):=(blk_cell BK309.out 1).trans rfl
      have hfs24:=blk_frozen BK309.out 1
      have hns24_0:=NB307_309.out
      have hms24_0:=NB309_307.out
      refine skip_ (w1:=?_) (by rfl) rfl ?_ ?_
      rotate_left
      ·
       go_simp
       rfl
      refine hK.out _ _ trivial (fun hHeld=>?_)
      clear hK K
      refine done_ (done_of HT_.out (by kernel_rfl)) ?_
      have hnb25:=NB309_307.out
      have hnc25:=NB307_309.out
      have hcz26_0 : w22.cell? ⟨gb309,0,none⟩ = some (.int .i64 0):=(blk_cell BK309.out 0).trans rfl
      have hcz26_1 : w22.cell? ⟨gb309,1,none⟩ = some (.int .i64 0):=(blk_cell BK309.out 1).trans rfl
      have hfz26_0:=blk_frozen BK309.out 0
      have hfz26_1:=blk_frozen BK309.out 1
      try go_wp2_with (first|((with_reducible refine gate_callee (f:=35) rfl ?_);refine goesL_ (some 26) rfl rfl Try.func35 (by kernel_rfl) rfl #[.agg #[.int .i64 (wrap64 (Int.tdiv a0 t308)),.int .i64 (wrap64 (Int.tdiv a1 t308))]] rfl (by (try simp only [List.map_toArray,List.map_cons,List.map_nil]);first|done|rfl|(simp only [List.length_drop,List.length_take];rfl)) ?_;(with_reducible refine (shapesearchref01_Valid.calls kj2 (wrap64 (Int.tdiv a0 t308)) (wrap64 (Int.tdiv a1 t308)) false _ A10.out).mono ?_);rintro e w27 ⟨rfl,hb⟩;refine ⟨_,rfl,?_⟩;have n0_:=A_ (blk_below (g:=gb307) (o:=.cells #[.int .i64 0,.int .i64 0] 37 (0,0)) (by (with_reducible repeat (first|refine blk_drewN ?_ _|refine blk_drew ?_|refine blk_alloc ?_ _));refine blk_far ?_ NB307_309.out _;(with_reducible repeat (first|refine blk_drewN ?_ _|refine blk_drew ?_|refine blk_alloc ?_ _));refine blk_far ?_ NB307_309.out _;(with_reducible repeat (first|refine blk_drewN ?_ _|refine blk_drew ?_|refine blk_alloc ?_ _));exact BK307.out) hb);have n1_:=A_ (blk_below (g:=gb309) (o:=.cells #[.int .i64 (wrap64 (Int.tdiv a0 t308)),.int .i64 (wrap64 (Int.tdiv a1 t308))] 37 (0,0)) (by (with_reducible repeat (first|refine blk_drewN ?_ _|refine blk_drew ?_|refine blk_alloc ?_ _));refine blk_put (cs:=#[.int .i64 (wrap64 (Int.tdiv a0 t308)),.int .i64 0]) ?_ 1 _ rfl;(with_reducible repeat (first|refine blk_drewN ?_ _|refine blk_drew ?_|refine blk_alloc ?_ _));refine blk_put (cs:=#[.int .i64 0,.int .i64 0]) ?_ 0 _ rfl;(with_reducible repeat (first|refine blk_drewN ?_ _|refine blk_drew ?_|refine blk_alloc ?_ _));exact BK309.out) hb);have n2_:=A_ (below_step (by repeat (first|(with_reducible first|exact HB.out|apply ba|apply bb|apply bc|refine below_set ?_ GE307.out|refine below_set ?_ GE309.out)|exact HB.out)) hb);clear BK307;clear BK309;clear HB;have BK307:=n0_;have BK309:=n1_;have HB:=n2_;clear n0_ n1_ n2_;(try clear hb);(try clear hb2);(try clear hk);(try clear hi);have hcz28_0 : w27.cell? ⟨gb307,0,none⟩ = some (.int .i64 0):=(blk_cell BK307.out 0).trans rfl;have hcz28_1 : w27.cell? ⟨gb307,1,none⟩ = some (.int .i64 0):=(blk_cell BK307.out 1).trans rfl;have hfz28_0:=blk_frozen BK307.out 0;have hfz28_1:=blk_frozen BK307.out 1))
      refine bodyPost_ret (results_ct rfl _ _ gb307 37 #[.int .i64 0,.int .i64 0] (0,0) _ rfl (by (with_reducible repeat (first|refine blk_drewN ?_ _|refine blk_drew ?_|refine blk_alloc ?_ _));refine blk_put (cs:=#[.int .i64 0,.int .i64 0]) ?_ 1 _ rfl;(with_reducible repeat (first|refine blk_drewN ?_ _|refine blk_drew ?_|refine blk_alloc ?_ _));refine blk_put (cs:=#[.int .i64 0,.int .i64 0]) ?_ 0 _ rfl;(with_reducible repeat (first|refine blk_drewN ?_ _|refine blk_drew ?_|refine blk_alloc ?_ _));exact BK307.out) Try.underlying37 rfl (by kernel_rfl)) rfl ?_
      exact ⟨by first|rfl|(simp [errW_none,errW_some] <;> rfl)|(simp [*,errW_none,errW_some] <;> rfl),by repeat (first|(with_reducible first|exact HB.out|apply ba|apply bb|apply bc|refine below_set ?_ GE307.out|refine below_set ?_ GE309.out)|exact HB.out)⟩

/-! ### shapesearchref12_Shifted: function 26 -/
def shapesearchref12_Shifted.f (k : Nat) (l0 : List Int) (l1 : List Int) : Option (Int × Int × Int):=(shapesearchref12_Two.f k l0 l1 0).bind fun t312=>(if t312 = 0 then ((shapesearchref12_sums.f k l0 l1).bind fun bt313=>((shapesearchref01_Make.f k (wrap64 ((wrap64 ((l0.length : Int) * bt313.2)) - (wrap64 (bt313.1 * bt313.1)))) (l0.length : Int)).bind fun bt315=>(some (bt315.1,bt315.2.1,bt315.2.2)))) else (some (0,0,t312)))
theorem shapesearchref12_Shifted.mono : ∀ a0 a1 k,LeO (shapesearchref12_Shifted.f k a0 a1) (shapesearchref12_Shifted.f (k + 1) a0 a1):=by
 intro a0 a1 k
 unfold shapesearchref12_Shifted.f
 repeat' first
   | (with_reducible exact shapesearchref01_Make.mono _ _ _)
   | (with_reducible exact shapesearchref12_Two.mono _ _ _ _)
   | (with_reducible exact shapesearchref12_sums.mono _ _ _)
   | (with_reducible exact LeO.refl _)
   | (with_reducible exact LeO.none _)
   | (with_reducible refine LeO.ite ?_ ?_)
   | (with_reducible refine LeO.bind ?_ (fun _=>?_))
   | exact shapesearchref01_Make.mono _ _ _
   | exact shapesearchref12_Two.mono _ _ _ _
   | exact shapesearchref12_sums.mono _ _ _
   | exact LeO.none _
   | refine LeO.ite ?_ ?_
   | refine LeO.bind ?_ (fun _=>?_)
set_option maxHeartbeats 8000000 in
set_option maxRecDepth 100000 in
theorem shapesearchref12_Shifted.calls (k : Nat) (A0 : Option Addr) (c0 : Nat) (l0 : List Int) (A1 : Option Addr) (c1 : Nat) (l1 : List Int) (r1 : Int) (r2 : Int) (r3 : Int) (w : World) (hr0 : Kd.C (Kd.int .i64) w A0 l0.length l0) (hc0 : l0.length ≤ c0) (hr1 : Kd.C (Kd.int .i64) w A1 l1.length l1) (hc1 : l1.length ≤ c1) (h : shapesearchref12_Shifted.f k l0 l1 = some (r1,r2,r3)) :
  Calls Try.prog 26 #[.slice A0 l0.length c0,.slice A1 l1.length c1] w fun e w'=>e = .returned (.tuple #[.agg #[.int .i64 r1,.int .i64 r2],.int .i64 r3])∧Below w.heap.size w w':=by
 have hu37:=Try.underlying37
 have HR0:=A_ hr0
 have HC0:=A_ hc0
 clear hr0 hc0
 have HR1:=A_ hr1
 have HC1:=A_ hc1
 clear hr1 hc1
 have HB:=A_ (Below.refl w.heap.size w)
 have H : ((shapesearchref12_Two.f k l0 l1 0).bind fun t312=>(if t312 = 0 then ((shapesearchref12_sums.f k l0 l1).bind fun bt313=>((shapesearchref01_Make.f k (wrap64 ((wrap64 ((l0.length : Int) * bt313.2)) - (wrap64 (bt313.1 * bt313.1)))) (l0.length : Int)).bind fun bt315=>(some (bt315.1,bt315.2.1,bt315.2.2)))) else (some (0,0,t312)))) = some (r1,r2,r3):=h
 clear h
 replace H:=Option.bind_eq_some_iff.mp H
 obtain ⟨t312,A30,H⟩:=H
 replace H : (if t312 = 0 then ((shapesearchref12_sums.f k l0 l1).bind fun bt313=>((shapesearchref01_Make.f k (wrap64 ((wrap64 ((l0.length : Int) * bt313.2)) - (wrap64 (bt313.1 * bt313.1)))) (l0.length : Int)).bind fun bt315=>(some (bt315.1,bt315.2.1,bt315.2.2)))) else (some (0,0,t312))) = some (r1,r2,r3):=H
 have A3:=A_ A30
 clear A30
 by_cases c4 : t312 = 0
 ·
  rw [if_pos c4] at H
  have c4b0 : (t312 == 0) = true:=beq_iff_eq.mpr c4
  have c4b1 : (t312 != 0) = false:=bne_eq_false_iff_eq.mpr c4
  clear c4
  replace H:=Option.bind_eq_some_iff.mp H
  obtain ⟨⟨t313,t314⟩,A50,H⟩:=H
  replace H : ((shapesearchref01_Make.f k (wrap64 ((wrap64 ((l0.length : Int) * t314)) - (wrap64 (t313 * t313)))) (l0.length : Int)).bind fun bt315=>(some (bt315.1,bt315.2.1,bt315.2.2))) = some (r1,r2,r3):=H
  have A5:=A_ A50
  clear A50
  replace H:=Option.bind_eq_some_iff.mp H
  obtain ⟨⟨t315,t316,t317⟩,A60,H⟩:=H
  replace H : (some (t315,t316,t317)) = some (r1,r2,r3):=H
  have A6:=A_ A60
  clear A60
  simp only [Option.some.injEq,Prod.mk.injEq] at H
  obtain ⟨rfl,rfl,rfl⟩:=H
  go_enter Try.func26,Try.ntmps26
  go_wp2_with (first|((with_reducible refine gate_dst (N:=4) rfl ?_);refine box_event ?hg (N:=4) ?hd (cs:=#[.int .i64 0,.int .i64 0]) (t:=37) ?hr ?_;(case hd=>rfl);(case hg=>rfl);(case hr=>first|(go_simp;done)|(go_simp;rfl));intro gb311 hg w7 hbox hb;have n0_:=A_ (below_step (by repeat (first|(with_reducible first|exact HB.out|apply ba|apply bb|apply bc)|exact HB.out)) hb);have n1_:=A_ (hbox);have n2_:=A_ ((by rw [hg];exact (below_size (by repeat (first|(with_reducible first|exact HB.out|apply ba|apply bb|apply bc)|exact HB.out))) : w.heap.size ≤ gb311));have n3_:=A_ ((by rw [hg];exact (below_size (by repeat (first|(with_reducible first|exact HB.out|apply ba|apply bb|apply bc)|exact HB.out))) : w.heap.size ≤ gb311));clear HB;have HB:=n0_;have BK311:=n1_;have GW311:=n2_;have GE311:=n3_;clear n0_ n1_ n2_ n3_;clear hb hbox hg)|((with_reducible refine gate_callee (f:=41) rfl ?_);refine goesL_ (some 11) rfl rfl Try.func41 (by kernel_rfl) rfl #[.slice A0 l0.length c0,.slice A1 l1.length c1,.int .i64 0] rfl (by (try simp only [List.map_toArray,List.map_cons,List.map_nil]);first|done|rfl|(simp only [List.length_drop,List.length_take];rfl)) ?_;(with_reducible refine (shapesearchref12_Two.calls k _ _ l0 _ _ l1 0 t312 _ ?side1 ?side2 ?side3 ?side4 A3.out).mono ?_);(case side1=>repeat (first|exact (cl HR0.out HB.out)|(with_reducible refine ca ?_ _)|(with_reducible refine cb ?_ _)|(with_reducible refine cc ?_)));(case side2=>exact HC0.out);(case side3=>repeat (first|exact (cl HR1.out HB.out)|(with_reducible refine ca ?_ _)|(with_reducible refine cb ?_ _)|(with_reducible refine cc ?_)));(case side4=>exact HC1.out);rintro e w' ⟨rfl,⟨nd,rfl⟩⟩;refine ⟨_,rfl,?_⟩;(try (rw [drewN_self w7];generalize hq_ : World.drewN w7 _ = w7;have n0_ : Aside0 (w7.heap[gb311]? = some (.cells #[.int .i64 0,.int .i64 0] 37 (0,0))):=⟨by rw [← hq_];exact (by (with_reducible repeat (first|refine blk_drewN ?_ _|refine blk_drew ?_|refine blk_alloc ?_ _));exact BK311.out)⟩;have n1_ : Aside0 (Below w.heap.size w w7):=⟨by rw [← hq_];exact (by repeat (first|(with_reducible first|exact HB.out|apply ba|apply bb|apply bc|refine below_set ?_ GE311.out)|exact HB.out))⟩;clear BK311 HB hq_;have BK311:=n0_;have HB:=n1_;clear n0_ n1_)))|((with_reducible refine gate_callee (f:=42) rfl ?_);refine goesL_ (some 19) rfl rfl Try.func42 (by kernel_rfl) rfl #[.slice A0 l0.length c0,.slice A1 l1.length c1] rfl (by (try simp only [List.map_toArray,List.map_cons,List.map_nil]);first|done|rfl|(simp only [List.length_drop,List.length_take];rfl)) ?_;(with_reducible refine (shapesearchref12_sums.calls k _ _ l0 _ _ l1 t313 t314 _ ?side1 ?side2 ?side3 ?side4 A5.out).mono ?_);(case side1=>repeat (first|exact (cl HR0.out HB.out)|(with_reducible refine ca ?_ _)|(with_reducible refine cb ?_ _)|(with_reducible refine cc ?_)));(case side2=>exact HC0.out);(case side3=>repeat (first|exact (cl HR1.out HB.out)|(with_reducible refine ca ?_ _)|(with_reducible refine cb ?_ _)|(with_reducible refine cc ?_)));(case side4=>exact HC1.out);rintro e w' ⟨rfl,⟨nd,rfl⟩⟩;refine ⟨_,rfl,?_⟩;(try (rw [drewN_self w7];generalize hq_ : World.drewN w7 _ = w7;have n0_ : Aside0 (w7.heap[gb311]? = some (.cells #[.int .i64 0,.int .i64 0] 37 (0,0))):=⟨by rw [← hq_];exact (by (with_reducible repeat (first|refine blk_drewN ?_ _|refine blk_drew ?_|refine blk_alloc ?_ _));exact BK311.out)⟩;have n1_ : Aside0 (Below w.heap.size w w7):=⟨by rw [← hq_];exact (by repeat (first|(with_reducible first|exact HB.out|apply ba|apply bb|apply bc|refine below_set ?_ GE311.out)|exact HB.out))⟩;clear BK311 HB hq_;have BK311:=n0_;have HB:=n1_;clear n0_ n1_)))|((with_reducible refine gate_callee (f:=43) rfl ?_);refine goesL_ (some 32) rfl rfl Try.func43 (by kernel_rfl) rfl #[.int .i64 (wrap64 ((wrap64 ((l0.length : Int) * t314)) - (wrap64 (t313 * t313)))),.int .i64 (l0.length : Int)] rfl (by (try simp only [List.map_toArray,List.map_cons,List.map_nil]);first|done|rfl|(simp only [List.length_drop,List.length_take];rfl)) ?_;(with_reducible refine (shapesearchref01_Make.calls k (wrap64 ((wrap64 ((l0.length : Int) * t314)) - (wrap64 (t313 * t313)))) (l0.length : Int) t315 t316 t317 _ A6.out).mono ?_);rintro e w8 ⟨rfl,hb⟩;refine ⟨_,rfl,?_⟩;have n0_:=A_ (blk_below (g:=gb311) (o:=.cells #[.int .i64 0,.int .i64 0] 37 (0,0)) (by (with_reducible repeat (first|refine blk_drewN ?_ _|refine blk_drew ?_|refine blk_alloc ?_ _));exact BK311.out) hb);have n1_:=A_ (below_step (by repeat (first|(with_reducible first|exact HB.out|apply ba|apply bb|apply bc|refine below_set ?_ GE311.out)|exact HB.out)) hb);clear BK311;clear HB;have BK311:=n0_;have HB:=n1_;clear n0_ n1_;(try clear hb);(try clear hb2);(try clear hk);(try clear hi);have hcz9_0 : w8.cell? ⟨gb311,0,none⟩ = some (.int .i64 0):=(blk_cell BK311.out 0).trans rfl;have hcz9_1 : w8.cell? ⟨gb311,1,none⟩ = some (.int .i64 0):=(blk_cell BK311.out 1).trans rfl;have hfz9_0:=blk_frozen BK311.out 0;have hfz9_1:=blk_frozen BK311.out 1))
  refine bodyPost_ret (results_ct rfl _ _ gb311 37 #[.int .i64 t315,.int .i64 t316] (0,0) _ rfl (by (with_reducible repeat (first|refine blk_drewN ?_ _|refine blk_drew ?_|refine blk_alloc ?_ _));refine blk_put (cs:=#[.int .i64 t315,.int .i64 0]) ?_ 1 _ rfl;(with_reducible repeat (first|refine blk_drewN ?_ _|refine blk_drew ?_|refine blk_alloc ?_ _));refine blk_put (cs:=#[.int .i64 0,.int .i64 0]) ?_ 0 _ rfl;(with_reducible repeat (first|refine blk_drewN ?_ _|refine blk_drew ?_|refine blk_alloc ?_ _));exact BK311.out) Try.underlying37 rfl (by kernel_rfl)) rfl ?_
  exact ⟨by first|rfl|(simp [errW_none,errW_some] <;> rfl)|(simp [*,errW_none,errW_some] <;> rfl),by repeat (first|(with_reducible first|exact HB.out|apply ba|apply bb|apply bc|refine below_set ?_ GE311.out)|exact HB.out)⟩
 ·
  rw [if_neg c4] at H
  have c4b0 : (t312 == 0) = false:=beq_eq_false_iff_ne.mpr c4
  have c4b1 : (t312 != 0) = true:=bne_iff_ne.mpr c4
  simp only [Option.some.injEq,Prod.mk.injEq] at H
  obtain ⟨rfl,rfl,rfl⟩:=H
  go_enter Try.func26,Try.ntmps26
  go_wp2_with (first|((with_reducible refine gate_dst (N:=4) rfl ?_);refine box_event ?hg (N:=4) ?hd (cs:=#[.int .i64 0,.int .i64 0]) (t:=37) ?hr ?_;(case hd=>rfl);(case hg=>rfl);(case hr=>first|(go_simp;done)|(go_simp;rfl));intro gb311 hg w10 hbox hb;have n0_:=A_ (below_step (by repeat (first|(with_reducible first|exact HB.out|apply ba|apply bb|apply bc)|exact HB.out)) hb);have n1_:=A_ (hbox);have n2_:=A_ ((by rw [hg];exact (below_size (by repeat (first|(with_reducible first|exact HB.out|apply ba|apply bb|apply bc)|exact HB.out))) : w.heap.size ≤ gb311));have n3_:=A_ ((by rw [hg];exact (below_size (by repeat (first|(with_reducible first|exact HB.out|apply ba|apply bb|apply bc)|exact HB.out))) : w.heap.size ≤ gb311));clear HB;have HB:=n0_;have BK311:=n1_;have GW311:=n2_;have GE311:=n3_;clear n0_ n1_ n2_ n3_;clear hb hbox hg)|((with_reducible refine gate_callee (f:=41) rfl ?_);refine goesL_ (some 11) rfl rfl Try.func41 (by kernel_rfl) rfl #[.slice A0 l0.length c0,.slice A1 l1.length c1,.int .i64 0] rfl (by (try simp only [List.map_toArray,List.map_cons,List.map_nil]);first|done|rfl|(simp only [List.length_drop,List.length_take];rfl)) ?_;(with_reducible refine (shapesearchref12_Two.calls k _ _ l0 _ _ l1 0 t312 _ ?side1 ?side2 ?side3 ?side4 A3.out).mono ?_);(case side1=>repeat (first|exact (cl HR0.out HB.out)|(with_reducible refine ca ?_ _)|(with_reducible refine cb ?_ _)|(with_reducible refine cc ?_)));(case side2=>exact HC0.out);(case side3=>repeat (first|exact (cl HR1.out HB.out)|(with_reducible refine ca ?_ _)|(with_reducible refine cb ?_ _)|(with_reducible refine cc ?_)));(case side4=>exact HC1.out);rintro e w' ⟨rfl,⟨nd,rfl⟩⟩;refine ⟨_,rfl,?_⟩;(try (rw [drewN_self w10];generalize hq_ : World.drewN w10 _ = w10;have n0_ : Aside0 (w10.heap[gb311]? = some (.cells #[.int .i64 0,.int .i64 0] 37 (0,0))):=⟨by rw [← hq_];exact (by (with_reducible repeat (first|refine blk_drewN ?_ _|refine blk_drew ?_|refine blk_alloc ?_ _));exact BK311.out)⟩;have n1_ : Aside0 (Below w.heap.size w w10):=⟨by rw [← hq_];exact (by repeat (first|(with_reducible first|exact HB.out|apply ba|apply bb|apply bc|refine below_set ?_ GE311.out)|exact HB.out))⟩;clear BK311 HB hq_;have BK311:=n0_;have HB:=n1_;clear n0_ n1_));have hcz11_0 : w10.cell? ⟨gb311,0,none⟩ = some (.int .i64 0):=(blk_cell BK311.out 0).trans rfl;have hcz11_1 : w10.cell? ⟨gb311,1,none⟩ = some (.int .i64 0):=(blk_cell BK311.out 1).trans rfl;have hfz11_0:=blk_frozen BK311.out 0;have hfz11_1:=blk_frozen BK311.out 1))
  refine bodyPost_ret (results_ct rfl _ _ gb311 37 #[.int .i64 0,.int .i64 0] (0,0) _ rfl (by (with_reducible repeat (first|refine blk_drewN ?_ _|refine blk_drew ?_|refine blk_alloc ?_ _));refine blk_put (cs:=#[.int .i64 0,.int .i64 0]) ?_ 1 _ rfl;(with_reducible repeat (first|refine blk_drewN ?_ _|refine blk_drew ?_|refine blk_alloc ?_ _));refine blk_put (cs:=#[.int .i64 0,.int .i64 0]) ?_ 0 _ rfl;(with_reducible repeat (first|refine blk_drewN ?_ _|refine blk_drew ?_|refine blk_alloc ?_ _));exact BK311.out) Try.underlying37 rfl (by kernel_rfl)) rfl ?_
  exact ⟨by first|rfl|(simp [errW_none,errW_some] <;> rfl)|(simp [*,errW_none,errW_some] <;> rfl),by repeat (first|(with_reducible first|exact HB.out|apply ba|apply bb|apply bc|refine below_set ?_ GE311.out)|exact HB.out)⟩

end Go.Proofs.Ytmkjmplkokfoiaa.PEuclidAnswers
