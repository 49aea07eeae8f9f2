/- This file proves, function by function, what the Go functions that one law uses compute; most of it was printed by a program (wip/tools of this session, over the kit's print). -/
import Derived.Test.YtmckmjpfcgmalaaPNormalRangex0
import Derived.Test.YtmckmjpfcgmalaaPNormalRangex3
namespace Go.Proofs.Ytmckmjpfcgmalaa.PNormalRange
open Go.RowKit Go.Proofs.YtmckmjpfcgmalaaW.PrintWords Go.Proofs.YtmckmjpfcgmalaaW.PrintLast Go.Proofs.YtmckmjpfcgmalaaW.PrintMore
attribute [local go_sem] max2_int min2_int max_two min_two max_three min_three max_four min_four   -- for this text's walks alone
set_option linter.unusedVariables false
set_option linter.unusedSimpArgs false

/-! ### euclid_check: function 51 -/
mutual
def euclid_check.j0 : Nat → List Int → List Int → Bool → Option (Int)
 | 0,_,_,_=>none
 | k + 1,x0,x1,x5=>if x5 = true then (some 8) else ((euclid_samples.f k x0).bind fun t210=>(if t210 = true then ((euclid_samples.f k x1).bind fun t211=>(euclid_check.j1 k x0 x1 (!t211))) else (euclid_check.j1 k x0 x1 true)))
def euclid_check.j1 : Nat → List Int → List Int → Bool → Option (Int)
 | 0,_,_,_=>none
 | k + 1,x0,x1,x14=>if x14 = true then (some 12) else (if (x0.length : Int) = (x1.length : Int) then (some 0) else (some 8))
end
def euclid_check.f (k : Nat) (l0 : List Int) (l1 : List Int) : Option (Int):=(euclid_length.f l0).bind fun t208=>(if t208 = true then ((euclid_length.f l1).bind fun t209=>(euclid_check.j0 k l0 l1 (!t209))) else (euclid_check.j0 k l0 l1 true))
theorem euclid_check.mono_l : ∀ k,(∀ y0 y1 y2,LeO (euclid_check.j0 k y0 y1 y2) (euclid_check.j0 (k + 1) y0 y1 y2))∧(∀ y0 y1 y2,LeO (euclid_check.j1 k y0 y1 y2) (euclid_check.j1 (k + 1) y0 y1 y2))
 | 0=>⟨fun _ _ _ r h=>by simp [euclid_check.j0] at h,fun _ _ _ r h=>by simp [euclid_check.j1] at h⟩
 | k + 1=>by
  obtain ⟨ih0,ih1⟩:=euclid_check.mono_l k
  refine ⟨?_,?_⟩
  ·
   intro y0 y1 y2
   unfold euclid_check.j0
   repeat' first
   | (with_reducible exact ih0 _ _ _)
   | (with_reducible exact ih1 _ _ _)
   | (with_reducible exact euclid_samples.mono _ _)
   | (with_reducible exact LeO.refl _)
   | (with_reducible exact LeO.none _)
   | (with_reducible refine LeO.ite ?_ ?_)
   | (with_reducible refine LeO.bind ?_ (fun _=>?_))
   | exact ih0 _ _ _
   | exact ih1 _ _ _
   | exact euclid_samples.mono _ _
   | exact LeO.none _
   | refine LeO.ite ?_ ?_
   | refine LeO.bind ?_ (fun _=>?_)
  ·
   intro y0 y1 y2
   unfold euclid_check.j1
   repeat' first
   | (with_reducible exact ih0 _ _ _)
   | (with_reducible exact ih1 _ _ _)
   | (with_reducible exact euclid_samples.mono _ _)
   | (with_reducible exact LeO.refl _)
   | (with_reducible exact LeO.none _)
   | (with_reducible refine LeO.ite ?_ ?_)
   | (with_reducible refine LeO.bind ?_ (fun _=>?_))
   | exact ih0 _ _ _
   | exact ih1 _ _ _
   | exact euclid_samples.mono _ _
   | exact LeO.none _
   | refine LeO.ite ?_ ?_
   | refine LeO.bind ?_ (fun _=>?_)
theorem euclid_check.mono : ∀ a0 a1 k,LeO (euclid_check.f k a0 a1) (euclid_check.f (k + 1) a0 a1):=by
 intro a0 a1 k
 obtain ⟨ih0,ih1⟩:=euclid_check.mono_l k
 unfold euclid_check.f
 repeat' first
   | (with_reducible exact ih0 _ _ _)
   | (with_reducible exact ih1 _ _ _)
   | (with_reducible exact euclid_samples.mono _ _)
   | (with_reducible exact LeO.refl _)
   | (with_reducible exact LeO.none _)
   | (with_reducible refine LeO.ite ?_ ?_)
   | (with_reducible refine LeO.bind ?_ (fun _=>?_))
   | exact ih0 _ _ _
   | exact ih1 _ _ _
   | exact euclid_samples.mono _ _
   | exact LeO.none _
   | refine LeO.ite ?_ ?_
   | refine LeO.bind ?_ (fun _=>?_)
set_option maxHeartbeats 8000000 in
set_option maxRecDepth 100000 in
theorem euclid_check.calls (k : Nat) (A0 : Option Addr) (c0 : Nat) (l0 : List Int) (A1 : Option Addr) (c1 : Nat) (l1 : List Int) (r : Int) (w : World) (hr0 : Kd.C (Kd.int .i64) w A0 l0.length l0) (hc0 : l0.length ≤ c0) (hr1 : Kd.C (Kd.int .i64) w A1 l1.length l1) (hc1 : l1.length ≤ c1) (h : euclid_check.f k l0 l1 = some r) :
  Calls Try.prog 51 #[.slice A0 l0.length c0,.slice A1 l1.length c1] w fun e w'=>e = .returned (.int .i64 r)∧Drawn0 w w':=by
 have HR0:=A_ hr0
 have HC0:=A_ hc0
 clear hr0 hc0
 have HR1:=A_ hr1
 have HC1:=A_ hc1
 clear hr1 hc1
 have H : ((euclid_length.f l0).bind fun t208=>(if t208 = true then ((euclid_length.f l1).bind fun t209=>(euclid_check.j0 k l0 l1 (!t209))) else (euclid_check.j0 k l0 l1 true))) = some r:=h
 clear h
 have HC3:=A_ H
 clear H
 go_enter Try.func51,Try.ntmps51
 go_upto_region 1 with (fail)
 go_cut [5] (fun v5 wc=>∃ (kq : Nat) (x5_2 : Bool),v5 = .bool x5_2∧Aside0 (euclid_check.j0 kq l0 l1 x5_2 = some r)∧Aside0 (kq ≤ k)∧Drawn0 w wc)
 case first =>
  have H:=HC3.out
  clear HC3
  replace H:=Option.bind_eq_some_iff.mp H
  obtain ⟨t208,A40,H⟩:=H
  replace H : (if t208 = true then ((euclid_length.f l1).bind fun t209=>(euclid_check.j0 k l0 l1 (!t209))) else (euclid_check.j0 k l0 l1 true)) = some r:=H
  have A4:=A_ A40
  clear A40
  by_cases c5 : t208 = true
  ·
   subst c5
   have H1 : ((euclid_length.f l1).bind fun t209=>(euclid_check.j0 k l0 l1 (!t209))) = some r:=by rw [if_pos rfl] at H;exact H
   clear H
   have H:=H1
   clear H1
   replace H:=Option.bind_eq_some_iff.mp H
   obtain ⟨t209,A60,H⟩:=H
   replace H : (euclid_check.j0 k l0 l1 (!t209)) = some r:=H
   have A6:=A_ A60
   clear A60
   have H':=A_ H
   clear H
   go_wp2_with (first|((with_reducible refine gate_callee (f:=55) rfl ?_);refine goesL_ (some 7) rfl rfl Try.func55 (by kernel_rfl) rfl #[.slice A0 l0.length c0] rfl (by (try simp only [List.map_toArray,List.map_cons,List.map_nil]);first|done|rfl|(simp only [List.length_drop,List.length_take];rfl)) ?_;(with_reducible refine (euclid_length.calls _ _ l0 true _ ?side1 ?side2 A4.out).mono ?_);(case side1=>repeat (first|exact HR0.out|(with_reducible refine ca ?_ _)|(with_reducible refine cb ?_ _)|(with_reducible refine cc ?_)));(case side2=>exact HC0.out);rintro e w' ⟨rfl,⟨nd,rfl⟩⟩;refine ⟨_,rfl,?_⟩)|(go_at_call 55;(with_reducible refine (euclid_length.calls _ _ l1 t209 _ ?side1 ?side2 A6.out).mono ?_);(case side1=>repeat (first|exact HR1.out|(with_reducible refine ca ?_ _)|(with_reducible refine cb ?_ _)|(with_reducible refine cc ?_)));(case side2=>exact HC1.out);rintro e w' ⟨rfl,⟨nd,rfl⟩⟩))
   go_meet
   case rel=>exact ⟨_,(!t209),(by first|rfl|(simp;done)|(simp [*];done)),H',⟨by first|omega|exact Nat.le_refl _⟩,by repeat (first|exact Drawn0.refl _|apply Drawn0.step)⟩
  ·
   replace c5:=Bool.eq_false_iff.mpr c5
   subst c5
   have H1 : (euclid_check.j0 k l0 l1 true) = some r:=by rw [if_neg (show ¬ (false = true) by decide)] at H;exact H
   clear H
   have H:=H1
   clear H1
   have H':=A_ H
   clear H
   go_wp2_with (first|((with_reducible refine gate_callee (f:=55) rfl ?_);refine goesL_ (some 7) rfl rfl Try.func55 (by kernel_rfl) rfl #[.slice A0 l0.length c0] rfl (by (try simp only [List.map_toArray,List.map_cons,List.map_nil]);first|done|rfl|(simp only [List.length_drop,List.length_take];rfl)) ?_;(with_reducible refine (euclid_length.calls _ _ l0 false _ ?side1 ?side2 A4.out).mono ?_);(case side1=>repeat (first|exact HR0.out|(with_reducible refine ca ?_ _)|(with_reducible refine cb ?_ _)|(with_reducible refine cc ?_)));(case side2=>exact HC0.out);rintro e w' ⟨rfl,⟨nd,rfl⟩⟩;refine ⟨_,rfl,?_⟩))
   go_meet
   case rel=>exact ⟨_,(true),(by first|rfl|(simp;done)|(simp [*];done)),H',⟨by first|omega|exact Nat.le_refl _⟩,by repeat (first|exact Drawn0.refl _|apply Drawn0.step)⟩
 case rest =>
  clear HC3
  try clear c1
  try clear p2
  try clear c5
  obtain ⟨kq,x5_2,rfl,HA,HJ2,⟨mc2,rfl⟩⟩:=hcut
  cases kq with
  | zero=>exact absurd HA.out (by simp [euclid_check.j0])
  | succ kj2 =>
   have H:=HA.out
   clear HA
   simp only [euclid_check.j0] at H
   by_cases c7 : x5_2 = true
   ·
    subst c7
    have H1 : (some 8) = some r:=by rw [if_pos rfl] at H;exact H
    clear H
    have H:=H1
    clear H1
    obtain rfl:=Option.some.inj H
    go_wp2
    go_ret
    exact ⟨by first|rfl|(simp;done)|(simp [*];done),by repeat (first|exact Drawn0.refl _|apply Drawn0.step)⟩
   ·
    replace c7:=Bool.eq_false_iff.mpr c7
    subst c7
    have H1 : ((euclid_samples.f kj2 l0).bind fun t210=>(if t210 = true then ((euclid_samples.f kj2 l1).bind fun t211=>(euclid_check.j1 kj2 l0 l1 (!t211))) else (euclid_check.j1 kj2 l0 l1 true))) = some r:=by rw [if_neg (show ¬ (false = true) by decide)] at H;exact H
    clear H
    have H:=H1
    clear H1
    have HC8:=A_ H
    clear H
    go_upto_region 3 with (fail)
    go_cut [14] (fun v14 wc=>∃ (kq : Nat) (x14_7 : Bool),v14 = .bool x14_7∧Aside0 (euclid_check.j1 kq l0 l1 x14_7 = some r)∧Aside0 (kq ≤ kj2)∧Drawn0 w wc)
    case first =>
     have H:=HC8.out
     clear HC8
     replace H:=Option.bind_eq_some_iff.mp H
     obtain ⟨t210,A90,H⟩:=H
     replace H : (if t210 = true then ((euclid_samples.f kj2 l1).bind fun t211=>(euclid_check.j1 kj2 l0 l1 (!t211))) else (euclid_check.j1 kj2 l0 l1 true)) = some r:=H
     have A9:=A_ A90
     clear A90
     by_cases c10 : t210 = true
     ·
      subst c10
      have H1 : ((euclid_samples.f kj2 l1).bind fun t211=>(euclid_check.j1 kj2 l0 l1 (!t211))) = some r:=by rw [if_pos rfl] at H;exact H
      clear H
      have H:=H1
      clear H1
      replace H:=Option.bind_eq_some_iff.mp H
      obtain ⟨t211,A110,H⟩:=H
      replace H : (euclid_check.j1 kj2 l0 l1 (!t211)) = some r:=H
      have A11:=A_ A110
      clear A110
      have H':=A_ H
      clear H
      go_wp2_with (first|((with_reducible refine gate_callee (f:=56) rfl ?_);refine goesL_ (some 16) rfl rfl Try.func56 (by kernel_rfl) rfl #[.slice A0 l0.length c0] rfl (by (try simp only [List.map_toArray,List.map_cons,List.map_nil]);first|done|rfl|(simp only [List.length_drop,List.length_take];rfl)) ?_;(with_reducible refine (euclid_samples.calls kj2 _ _ l0 true _ ?side1 ?side2 A9.out).mono ?_);(case side1=>repeat (first|exact HR0.out|(with_reducible refine ca ?_ _)|(with_reducible refine cb ?_ _)|(with_reducible refine cc ?_)));(case side2=>exact HC0.out);rintro e w' ⟨rfl,⟨nd,rfl⟩⟩;refine ⟨_,rfl,?_⟩)|(go_at_call 56;(with_reducible refine (euclid_samples.calls kj2 _ _ l1 t211 _ ?side1 ?side2 A11.out).mono ?_);(case side1=>repeat (first|exact HR1.out|(with_reducible refine ca ?_ _)|(with_reducible refine cb ?_ _)|(with_reducible refine cc ?_)));(case side2=>exact HC1.out);rintro e w' ⟨rfl,⟨nd,rfl⟩⟩))
      go_meet
      case rel=>exact ⟨_,(!t211),(by first|rfl|(simp;done)|(simp [*];done)),H',⟨by have:=HJ2.out;first|omega|exact Nat.le_refl _⟩,by repeat (first|exact Drawn0.refl _|apply Drawn0.step)⟩
     ·
      replace c10:=Bool.eq_false_iff.mpr c10
      subst c10
      have H1 : (euclid_check.j1 kj2 l0 l1 true) = some r:=by rw [if_neg (show ¬ (false = true) by decide)] at H;exact H
      clear H
      have H:=H1
      clear H1
      have H':=A_ H
      clear H
      go_wp2_with (first|((with_reducible refine gate_callee (f:=56) rfl ?_);refine goesL_ (some 16) rfl rfl Try.func56 (by kernel_rfl) rfl #[.slice A0 l0.length c0] rfl (by (try simp only [List.map_toArray,List.map_cons,List.map_nil]);first|done|rfl|(simp only [List.length_drop,List.length_take];rfl)) ?_;(with_reducible refine (euclid_samples.calls kj2 _ _ l0 false _ ?side1 ?side2 A9.out).mono ?_);(case side1=>repeat (first|exact HR0.out|(with_reducible refine ca ?_ _)|(with_reducible refine cb ?_ _)|(with_reducible refine cc ?_)));(case side2=>exact HC0.out);rintro e w' ⟨rfl,⟨nd,rfl⟩⟩;refine ⟨_,rfl,?_⟩))
      go_meet
      case rel=>exact ⟨_,(true),(by first|rfl|(simp;done)|(simp [*];done)),H',⟨by have:=HJ2.out;first|omega|exact Nat.le_refl _⟩,by repeat (first|exact Drawn0.refl _|apply Drawn0.step)⟩
    case rest =>
     clear HC8
     try clear c1
     try clear c2
     try clear p2
     try clear c5
     try clear c7
     try clear c10
     try clear p2
     obtain ⟨kq,x14_7,rfl,HA,HJ7,⟨mc7,rfl⟩⟩:=hcut
     cases kq with
     | zero=>exact absurd HA.out (by simp [euclid_check.j1])
     | succ kj7 =>
      have H:=HA.out
      clear HA
      simp only [euclid_check.j1] at H
      by_cases c12 : x14_7 = true
      ·
       subst c12
       have H1 : (some 12) = some r:=by rw [if_pos rfl] at H;exact H
       clear H
       have H:=H1
       clear H1
       obtain rfl:=Option.some.inj H
       go_wp2
       go_ret
       exact ⟨by first|rfl|(simp;done)|(simp [*];done),by repeat (first|exact Drawn0.refl _|apply Drawn0.step)⟩
      ·
       replace c12:=Bool.eq_false_iff.mpr c12
       subst c12
       have H1 : (if (l0.length : Int) = (l1.length : Int) then (some 0) else (some 8)) = some r:=by rw [if_neg (show ¬ (false = true) by decide)] at H;exact H
       clear H
       have H:=H1
       clear H1
       by_cases c13 : (l0.length : Int) = (l1.length : Int)
       ·
        rw [if_pos c13] at H
        have c13b0 : ((l0.length : Int) == (l1.length : Int)) = true:=beq_iff_eq.mpr c13
        have c13b1 : ((l0.length : Int) != (l1.length : Int)) = false:=bne_eq_false_iff_eq.mpr c13
        have c13b2 : (l0.length == l1.length) = true:=by first|simpa using c13|(simp at c13 ⊢;omega)
        clear c13
        obtain rfl:=Option.some.inj H
        go_wp2
        go_ret
        exact ⟨by first|rfl|(simp;done)|(simp [*];done),by repeat (first|exact Drawn0.refl _|apply Drawn0.step)⟩
       ·
        rw [if_neg c13] at H
        have c13b0 : ((l0.length : Int) == (l1.length : Int)) = false:=beq_eq_false_iff_ne.mpr c13
        have c13b1 : ((l0.length : Int) != (l1.length : Int)) = true:=bne_iff_ne.mpr c13
        have c13b2 : (l0.length == l1.length) = false:=by first|simpa using c13|(simp at c13 ⊢;omega)
        obtain rfl:=Option.some.inj H
        go_wp2
        go_ret
        exact ⟨by first|rfl|(simp;done)|(simp [*];done),by repeat (first|exact Drawn0.refl _|apply Drawn0.step)⟩

/-! ### euclid_square: function 52 -/
def euclid_square.l0 : Nat → List Int → Int → List Int → Int → Int → Option (Int)
 | 0,_,_,_,_,_=>none
 | k + 1,x1,x5,x8,x9,x10=>if x10 < x9 then (if 0 ≤ x10 then (if x10 < (x8.length : Int) then (if x10 < (x1.length : Int) then (euclid_square.l0 k x1 (wrap64 (x5 + (wrap64 ((wrap64 ((rd x8 x10) - (rd x1 x10))) * (wrap64 ((rd x8 x10) - (rd x1 x10))))))) x8 x9 (wrap64 (x10 + 1))) else (none)) else (none)) else (none)) else (some x5)
def euclid_square.f (k : Nat) (l0 : List Int) (l1 : List Int) : Option (Int):=euclid_square.l0 k l1 0 l0 (l0.length : Int) 0
theorem euclid_square.mono_l : ∀ k,(∀ y0 y1 y2 y3 y4,LeO (euclid_square.l0 k y0 y1 y2 y3 y4) (euclid_square.l0 (k + 1) y0 y1 y2 y3 y4))
 | 0=>fun _ _ _ _ _ r h=>by simp [euclid_square.l0] at h
 | k + 1=>by
  have ih0:=euclid_square.mono_l k
  ·
   intro y0 y1 y2 y3 y4
   unfold euclid_square.l0
   repeat' first
   | (with_reducible exact ih0 _ _ _ _ _)
   | (with_reducible exact LeO.refl _)
   | (with_reducible exact LeO.none _)
   | (with_reducible refine LeO.ite ?_ ?_)
   | (with_reducible refine LeO.bind ?_ (fun _=>?_))
   | exact ih0 _ _ _ _ _
   | exact LeO.none _
   | refine LeO.ite ?_ ?_
   | refine LeO.bind ?_ (fun _=>?_)
theorem euclid_square.mono : ∀ a0 a1 k,LeO (euclid_square.f k a0 a1) (euclid_square.f (k + 1) a0 a1):=by
 intro a0 a1 k
 have ih0:=euclid_square.mono_l k
 unfold euclid_square.f
 repeat' first
   | (with_reducible exact ih0 _ _ _ _ _)
   | (with_reducible exact LeO.refl _)
   | (with_reducible exact LeO.none _)
   | (with_reducible refine LeO.ite ?_ ?_)
   | (with_reducible refine LeO.bind ?_ (fun _=>?_))
   | exact ih0 _ _ _ _ _
   | exact LeO.none _
   | refine LeO.ite ?_ ?_
   | refine LeO.bind ?_ (fun _=>?_)
set_option maxHeartbeats 8000000 in
set_option maxRecDepth 100000 in
theorem euclid_square.calls (k : Nat) (A0 : Option Addr) (c0 : Nat) (l0 : List Int) (A1 : Option Addr) (c1 : Nat) (l1 : List Int) (r : Int) (w : World) (hr0 : Kd.C (Kd.int .i64) w A0 l0.length l0) (hc0 : l0.length ≤ c0) (hr1 : Kd.C (Kd.int .i64) w A1 l1.length l1) (hc1 : l1.length ≤ c1) (h : euclid_square.f k l0 l1 = some r) :
  Calls Try.prog 52 #[.slice A0 l0.length c0,.slice A1 l1.length c1] w fun e w'=>e = .returned (.int .i64 r)∧Drawn0 w w':=by
 have HR0:=A_ hr0
 have HC0:=A_ hc0
 clear hr0 hc0
 have HR1:=A_ hr1
 have HC1:=A_ hc1
 clear hr1 hc1
 have H : (euclid_square.l0 k l1 0 l0 (l0.length : Int) 0) = some r:=h
 clear h
 have H':=A_ H
 clear H
 go_enter Try.func52,Try.ntmps52
 go_wp2
 repeat (go_quiet (fail);try go_wp2)
 go_loopg [5,10] k (fun kq v5 v10 w'=>∃ (x5_1 : Int) (x10_1 : Int),v5 = .int .i64 x5_1∧v10 = .int .i64 x10_1∧Aside0 (euclid_square.l0 kq l1 x5_1 l0 (l0.length : Int) x10_1 = some r)∧Aside0 (kq ≤ k)∧Drawn0 w w')
 case atStart=>exact ⟨(0),(0),(by first|rfl|(simp;done)|(simp [*];done)),(by first|rfl|(simp;done)|(simp [*];done)),H',⟨Nat.le_refl _⟩,by repeat (first|exact Drawn0.refl _|apply Drawn0.step)⟩
 case round =>
  clear H'
  try clear c1
  try clear p2
  obtain ⟨x5_1,x10_1,rfl,rfl,HA,HK1,⟨m1,rfl⟩⟩:=hrel
  cases gk with
  | zero=>exact absurd HA.out (by simp [euclid_square.l0])
  | succ k1 =>
   have H:=HA.out
   clear HA
   simp only [euclid_square.l0] at H
   by_cases c3 : x10_1 < (l0.length : Int)
   ·
    rw [if_pos c3] at H
    have c3b0 : decide (x10_1 < (l0.length : Int)) = true:=decide_eq_true c3
    clear c3
    by_cases c4 : 0 ≤ x10_1
    ·
     rw [if_pos c4] at H
     have c4b0 : decide (0 ≤ x10_1) = true:=decide_eq_true c4
     clear c4
     by_cases c5 : x10_1 < (l0.length : Int)
     ·
      rw [if_pos c5] at H
      have c5b0 : decide (x10_1 < (l0.length : Int)) = true:=decide_eq_true c5
      clear c5
      by_cases c6 : x10_1 < (l1.length : Int)
      ·
       rw [if_pos c6] at H
       have c6b0 : decide (x10_1 < (l1.length : Int)) = true:=decide_eq_true c6
       clear c6
       have H':=A_ H
       clear H
       have p212 : 0 ≤ (x10_1 : Int):=of_decide_eq_true (by first|(with_reducible assumption)|assumption)
       have q212 : x10_1 < (l0.length : Int):=of_decide_eq_true (by first|(with_reducible assumption)|assumption)
       obtain ⟨ad212,e212,hx212_0⟩:=Kd.at_int HR0.out x10_1 p212 q212
       cases e212
       replace p212:=eq_true p212
       replace q212:=eq_true q212
       have p213 : 0 ≤ (x10_1 : Int):=of_decide_eq_true (by first|(with_reducible assumption)|assumption)
       have q213 : x10_1 < (l1.length : Int):=of_decide_eq_true (by first|(with_reducible assumption)|assumption)
       obtain ⟨ad213,e213,hx213_0⟩:=Kd.at_int HR1.out x10_1 p213 q213
       cases e213
       replace p213:=eq_true p213
       replace q213:=eq_true q213
       have p214 : 0 ≤ (x10_1 : Int):=of_decide_eq_true (by first|(with_reducible assumption)|assumption)
       have q214 : x10_1 < (l1.length : Int):=of_decide_eq_true (by first|(with_reducible assumption)|assumption)
       obtain ⟨ad214,e214,hx214_0⟩:=Kd.at_int HR1.out x10_1 p214 q214
       obtain rfl : ad213 = ad214:=(by injection e214)
       replace p214:=eq_true p214
       replace q214:=eq_true q214
       go_wp2
       repeat (go_quiet (fail);try go_wp2)
       go_roundg k1
       case measure=>have:=HK1.out;omega
       case rel=>exact ⟨(wrap64 (x5_1 + (wrap64 ((wrap64 ((rd l0 x10_1) - (rd l1 x10_1))) * (wrap64 ((rd l0 x10_1) - (rd l1 x10_1))))))),(wrap64 (x10_1 + 1)),(by first|rfl|(simp;done)|(simp [*];done)),(by first|rfl|(simp;done)|(simp [*];done)),H',⟨by have:=HK1.out;omega⟩,by repeat (first|exact Drawn0.refl _|apply Drawn0.step)⟩
      ·
       rw [if_neg c6] at H
       exact absurd H (by simp)
     ·
      rw [if_neg c5] at H
      exact absurd H (by simp)
    ·
     rw [if_neg c4] at H
     exact absurd H (by simp)
   ·
    rw [if_neg c3] at H
    have c3b0 : decide (x10_1 < (l0.length : Int)) = false:=decide_eq_false c3
    clear c3
    obtain rfl:=Option.some.inj H
    go_wp2
    repeat (go_quiet (fail);try go_wp2)
    go_ret
    exact ⟨by first|rfl|(simp;done)|(simp [*];done),by repeat (first|exact Drawn0.refl _|apply Drawn0.step)⟩

/-! ### euclid_Distance: function 33 -/
def euclid_Distance.f (k : Nat) (l0 : List Int) (l1 : List Int) : Option (Int × Int):=(euclid_check.f k l0 l1).bind fun t215=>(if t215 = 0 then ((euclid_square.f k l0 l1).bind fun t216=>(some (t216,0))) else (some (0,t215)))
theorem euclid_Distance.mono : ∀ a0 a1 k,LeO (euclid_Distance.f k a0 a1) (euclid_Distance.f (k + 1) a0 a1):=by
 intro a0 a1 k
 unfold euclid_Distance.f
 repeat' first
   | (with_reducible exact euclid_check.mono _ _ _)
   | (with_reducible exact euclid_square.mono _ _ _)
   | (with_reducible exact LeO.refl _)
   | (with_reducible exact LeO.none _)
   | (with_reducible refine LeO.ite ?_ ?_)
   | (with_reducible refine LeO.bind ?_ (fun _=>?_))
   | exact euclid_check.mono _ _ _
   | exact euclid_square.mono _ _ _
   | exact LeO.none _
   | refine LeO.ite ?_ ?_
   | refine LeO.bind ?_ (fun _=>?_)
set_option maxHeartbeats 8000000 in
set_option maxRecDepth 100000 in
theorem euclid_Distance.calls (k : Nat) (A0 : Option Addr) (c0 : Nat) (l0 : List Int) (A1 : Option Addr) (c1 : Nat) (l1 : List Int) (r1 : Int) (r2 : Int) (w : World) (hr0 : Kd.C (Kd.int .i64) w A0 l0.length l0) (hc0 : l0.length ≤ c0) (hr1 : Kd.C (Kd.int .i64) w A1 l1.length l1) (hc1 : l1.length ≤ c1) (h : euclid_Distance.f k l0 l1 = some (r1,r2)) :
  Calls Try.prog 33 #[.slice A0 l0.length c0,.slice A1 l1.length c1] w fun e w'=>e = .returned (.tuple #[.int .i64 r1,.int .i64 r2])∧Drawn0 w w':=by
 have HR0:=A_ hr0
 have HC0:=A_ hc0
 clear hr0 hc0
 have HR1:=A_ hr1
 have HC1:=A_ hc1
 clear hr1 hc1
 have H : ((euclid_check.f k l0 l1).bind fun t215=>(if t215 = 0 then ((euclid_square.f k l0 l1).bind fun t216=>(some (t216,0))) else (some (0,t215)))) = some (r1,r2):=h
 clear h
 replace H:=Option.bind_eq_some_iff.mp H
 obtain ⟨t215,A30,H⟩:=H
 replace H : (if t215 = 0 then ((euclid_square.f k l0 l1).bind fun t216=>(some (t216,0))) else (some (0,t215))) = some (r1,r2):=H
 have A3:=A_ A30
 clear A30
 by_cases c4 : t215 = 0
 ·
  rw [if_pos c4] at H
  have c4b0 : (t215 == 0) = true:=beq_iff_eq.mpr c4
  have c4b1 : (t215 != 0) = false:=bne_eq_false_iff_eq.mpr c4
  clear c4
  replace H:=Option.bind_eq_some_iff.mp H
  obtain ⟨t216,A50,H⟩:=H
  replace H : (some (t216,0)) = some (r1,r2):=H
  have A5:=A_ A50
  clear A50
  simp only [Option.some.injEq,Prod.mk.injEq] at H
  obtain ⟨rfl,rfl⟩:=H
  go_enter Try.func33,Try.ntmps33
  go_wp2_with (first|((with_reducible refine gate_callee (f:=51) rfl ?_);refine goesL_ (some 9) rfl rfl Try.func51 (by kernel_rfl) rfl #[.slice A0 l0.length c0,.slice A1 l1.length c1] rfl (by (try simp only [List.map_toArray,List.map_cons,List.map_nil]);first|done|rfl|(simp only [List.length_drop,List.length_take];rfl)) ?_;(with_reducible refine (euclid_check.calls k _ _ l0 _ _ l1 t215 _ ?side1 ?side2 ?side3 ?side4 A3.out).mono ?_);(case side1=>repeat (first|exact HR0.out|(with_reducible refine ca ?_ _)|(with_reducible refine cb ?_ _)|(with_reducible refine cc ?_)));(case side2=>exact HC0.out);(case side3=>repeat (first|exact HR1.out|(with_reducible refine ca ?_ _)|(with_reducible refine cb ?_ _)|(with_reducible refine cc ?_)));(case side4=>exact HC1.out);rintro e w' ⟨rfl,⟨nd,rfl⟩⟩;refine ⟨_,rfl,?_⟩)|((with_reducible refine gate_callee (f:=52) rfl ?_);refine goesL_ (some 15) rfl rfl Try.func52 (by kernel_rfl) rfl #[.slice A0 l0.length c0,.slice A1 l1.length c1] rfl (by (try simp only [List.map_toArray,List.map_cons,List.map_nil]);first|done|rfl|(simp only [List.length_drop,List.length_take];rfl)) ?_;(with_reducible refine (euclid_square.calls k _ _ l0 _ _ l1 t216 _ ?side1 ?side2 ?side3 ?side4 A5.out).mono ?_);(case side1=>repeat (first|exact HR0.out|(with_reducible refine ca ?_ _)|(with_reducible refine cb ?_ _)|(with_reducible refine cc ?_)));(case side2=>exact HC0.out);(case side3=>repeat (first|exact HR1.out|(with_reducible refine ca ?_ _)|(with_reducible refine cb ?_ _)|(with_reducible refine cc ?_)));(case side4=>exact HC1.out);rintro e w' ⟨rfl,⟨nd,rfl⟩⟩;refine ⟨_,rfl,?_⟩))
  go_ret2
  exact ⟨by first|rfl|(simp;done)|(simp [*];done),by repeat (first|exact Drawn0.refl _|apply Drawn0.step)⟩
 ·
  rw [if_neg c4] at H
  have c4b0 : (t215 == 0) = false:=beq_eq_false_iff_ne.mpr c4
  have c4b1 : (t215 != 0) = true:=bne_iff_ne.mpr c4
  simp only [Option.some.injEq,Prod.mk.injEq] at H
  obtain ⟨rfl,rfl⟩:=H
  go_enter Try.func33,Try.ntmps33
  go_wp2_with (first|((with_reducible refine gate_callee (f:=51) rfl ?_);refine goesL_ (some 9) rfl rfl Try.func51 (by kernel_rfl) rfl #[.slice A0 l0.length c0,.slice A1 l1.length c1] rfl (by (try simp only [List.map_toArray,List.map_cons,List.map_nil]);first|done|rfl|(simp only [List.length_drop,List.length_take];rfl)) ?_;(with_reducible refine (euclid_check.calls k _ _ l0 _ _ l1 t215 _ ?side1 ?side2 ?side3 ?side4 A3.out).mono ?_);(case side1=>repeat (first|exact HR0.out|(with_reducible refine ca ?_ _)|(with_reducible refine cb ?_ _)|(with_reducible refine cc ?_)));(case side2=>exact HC0.out);(case side3=>repeat (first|exact HR1.out|(with_reducible refine ca ?_ _)|(with_reducible refine cb ?_ _)|(with_reducible refine cc ?_)));(case side4=>exact HC1.out);rintro e w' ⟨rfl,⟨nd,rfl⟩⟩;refine ⟨_,rfl,?_⟩))
  go_ret2
  exact ⟨by first|rfl|(simp;done)|(simp [*];done),by repeat (first|exact Drawn0.refl _|apply Drawn0.step)⟩

/-! ### normal_product: function 35 -/
def normal_product.l0 : Nat → List Int → List Int → Int → Int → Int → List Int → Int → Int → Option (Int)
 | 0,_,_,_,_,_,_,_,_=>none
 | k + 1,x0,x1,x5,x6,x7,x10,x11,x12=>if x12 < x11 then (if 0 ≤ x12 then (if x12 < (x10.length : Int) then (if x12 < (x1.length : Int) then (normal_product.l0 k x0 x1 (wrap64 (x5 + (wrap64 ((rd x10 x12) * (rd x1 x12))))) (wrap64 (x6 + (rd x10 x12))) (wrap64 (x7 + (rd x1 x12))) x10 x11 (wrap64 (x12 + 1))) else (none)) else (none)) else (none)) else (some (wrap64 ((wrap64 ((x0.length : Int) * x5)) - (wrap64 (x6 * x7)))))
def normal_product.f (k : Nat) (l0 : List Int) (l1 : List Int) : Option (Int):=normal_product.l0 k l0 l1 0 0 0 l0 (l0.length : Int) 0
theorem normal_product.mono_l : ∀ k,(∀ y0 y1 y2 y3 y4 y5 y6 y7,LeO (normal_product.l0 k y0 y1 y2 y3 y4 y5 y6 y7) (normal_product.l0 (k + 1) y0 y1 y2 y3 y4 y5 y6 y7))
 | 0=>fun _ _ _ _ _ _ _ _ r h=>by simp [normal_product.l0] at h
 | k + 1=>by
  have ih0:=normal_product.mono_l k
  ·
   intro y0 y1 y2 y3 y4 y5 y6 y7
   unfold normal_product.l0
   repeat' first
   | (with_reducible exact ih0 _ _ _ _ _ _ _ _)
   | (with_reducible exact LeO.refl _)
   | (with_reducible exact LeO.none _)
   | (with_reducible refine LeO.ite ?_ ?_)
   | (with_reducible refine LeO.bind ?_ (fun _=>?_))
   | exact ih0 _ _ _ _ _ _ _ _
   | exact LeO.none _
   | refine LeO.ite ?_ ?_
   | refine LeO.bind ?_ (fun _=>?_)
theorem normal_product.mono : ∀ a0 a1 k,LeO (normal_product.f k a0 a1) (normal_product.f (k + 1) a0 a1):=by
 intro a0 a1 k
 have ih0:=normal_product.mono_l k
 unfold normal_product.f
 repeat' first
   | (with_reducible exact ih0 _ _ _ _ _ _ _ _)
   | (with_reducible exact LeO.refl _)
   | (with_reducible exact LeO.none _)
   | (with_reducible refine LeO.ite ?_ ?_)
   | (with_reducible refine LeO.bind ?_ (fun _=>?_))
   | exact ih0 _ _ _ _ _ _ _ _
   | exact LeO.none _
   | refine LeO.ite ?_ ?_
   | refine LeO.bind ?_ (fun _=>?_)
set_option maxHeartbeats 8000000 in
set_option maxRecDepth 100000 in
theorem normal_product.calls (k : Nat) (A0 : Option Addr) (c0 : Nat) (l0 : List Int) (A1 : Option Addr) (c1 : Nat) (l1 : List Int) (r : Int) (w : World) (hr0 : Kd.C (Kd.int .i64) w A0 l0.length l0) (hc0 : l0.length ≤ c0) (hr1 : Kd.C (Kd.int .i64) w A1 l1.length l1) (hc1 : l1.length ≤ c1) (h : normal_product.f k l0 l1 = some r) :
  Calls Try.prog 35 #[.slice A0 l0.length c0,.slice A1 l1.length c1] w fun e w'=>e = .returned (.int .i64 r)∧Drawn0 w w':=by
 have HR0:=A_ hr0
 have HC0:=A_ hc0
 clear hr0 hc0
 have HR1:=A_ hr1
 have HC1:=A_ hc1
 clear hr1 hc1
 have H : (normal_product.l0 k l0 l1 0 0 0 l0 (l0.length : Int) 0) = some r:=h
 clear h
 have H':=A_ H
 clear H
 go_enter Try.func35,Try.ntmps35
 go_wp2
 repeat (go_quiet (fail);try go_wp2)
 go_loopg [5,6,7,12] k (fun kq v5 v6 v7 v12 w'=>∃ (x5_1 : Int) (x6_1 : Int) (x7_1 : Int) (x12_1 : Int),v5 = .int .i64 x5_1∧v6 = .int .i64 x6_1∧v7 = .int .i64 x7_1∧v12 = .int .i64 x12_1∧Aside0 (normal_product.l0 kq l0 l1 x5_1 x6_1 x7_1 l0 (l0.length : Int) x12_1 = some r)∧Aside0 (kq ≤ k)∧Drawn0 w w')
 case atStart=>exact ⟨(0),(0),(0),(0),(by first|rfl|(simp;done)|(simp [*];done)),(by first|rfl|(simp;done)|(simp [*];done)),(by first|rfl|(simp;done)|(simp [*];done)),(by first|rfl|(simp;done)|(simp [*];done)),H',⟨Nat.le_refl _⟩,by repeat (first|exact Drawn0.refl _|apply Drawn0.step)⟩
 case round =>
  clear H'
  try clear c1
  try clear p2
  obtain ⟨x5_1,x6_1,x7_1,x12_1,rfl,rfl,rfl,rfl,HA,HK1,⟨m1,rfl⟩⟩:=hrel
  cases gk with
  | zero=>exact absurd HA.out (by simp [normal_product.l0])
  | succ k1 =>
   have H:=HA.out
   clear HA
   simp only [normal_product.l0] at H
   by_cases c3 : x12_1 < (l0.length : Int)
   ·
    rw [if_pos c3] at H
    have c3b0 : decide (x12_1 < (l0.length : Int)) = true:=decide_eq_true c3
    clear c3
    by_cases c4 : 0 ≤ x12_1
    ·
     rw [if_pos c4] at H
     have c4b0 : decide (0 ≤ x12_1) = true:=decide_eq_true c4
     clear c4
     by_cases c5 : x12_1 < (l0.length : Int)
     ·
      rw [if_pos c5] at H
      have c5b0 : decide (x12_1 < (l0.length : Int)) = true:=decide_eq_true c5
      clear c5
      by_cases c6 : x12_1 < (l1.length : Int)
      ·
       rw [if_pos c6] at H
       have c6b0 : decide (x12_1 < (l1.length : Int)) = true:=decide_eq_true c6
       clear c6
       have H':=A_ H
       clear H
       have p217 : 0 ≤ (x12_1 : Int):=of_decide_eq_true (by first|(with_reducible assumption)|assumption)
       have q217 : x12_1 < (l0.length : Int):=of_decide_eq_true (by first|(with_reducible assumption)|assumption)
       obtain ⟨ad217,e217,hx217_0⟩:=Kd.at_int HR0.out x12_1 p217 q217
       cases e217
       replace p217:=eq_true p217
       replace q217:=eq_true q217
       have p218 : 0 ≤ (x12_1 : Int):=of_decide_eq_true (by first|(with_reducible assumption)|assumption)
       have q218 : x12_1 < (l1.length : Int):=of_decide_eq_true (by first|(with_reducible assumption)|assumption)
       obtain ⟨ad218,e218,hx218_0⟩:=Kd.at_int HR1.out x12_1 p218 q218
       cases e218
       replace p218:=eq_true p218
       replace q218:=eq_true q218
       have p219 : 0 ≤ (x12_1 : Int):=of_decide_eq_true (by first|(with_reducible assumption)|assumption)
       have q219 : x12_1 < (l1.length : Int):=of_decide_eq_true (by first|(with_reducible assumption)|assumption)
       obtain ⟨ad219,e219,hx219_0⟩:=Kd.at_int HR1.out x12_1 p219 q219
       obtain rfl : ad218 = ad219:=(by injection e219)
       replace p219:=eq_true p219
       replace q219:=eq_true q219
       go_wp2
       repeat (go_quiet (fail);try go_wp2)
       go_roundg k1
       case measure=>have:=HK1.out;omega
       case rel=>exact ⟨(wrap64 (x5_1 + (wrap64 ((rd l0 x12_1) * (rd l1 x12_1))))),(wrap64 (x6_1 + (rd l0 x12_1))),(wrap64 (x7_1 + (rd l1 x12_1))),(wrap64 (x12_1 + 1)),(by first|rfl|(simp;done)|(simp [*];done)),(by first|rfl|(simp;done)|(simp [*];done)),(by first|rfl|(simp;done)|(simp [*];done)),(by first|rfl|(simp;done)|(simp [*];done)),H',⟨by have:=HK1.out;omega⟩,by repeat (first|exact Drawn0.refl _|apply Drawn0.step)⟩
      ·
       rw [if_neg c6] at H
       exact absurd H (by simp)
     ·
      rw [if_neg c5] at H
      exact absurd H (by simp)
    ·
     rw [if_neg c4] at H
     exact absurd H (by simp)
   ·
    rw [if_neg c3] at H
    have c3b0 : decide (x12_1 < (l0.length : Int)) = false:=decide_eq_false c3
    clear c3
    obtain rfl:=Option.some.inj H
    go_wp2
    repeat (go_quiet (fail);try go_wp2)
    go_ret
    exact ⟨by first|rfl|(simp;done)|(simp [*];done),by repeat (first|exact Drawn0.refl _|apply Drawn0.step)⟩

/-! ### window_Variance: function 77 -/
def window_Variance.f (a0_0 : Int) (a0_1 : Int) (a0_2 : Int) : Option (Int):=if a0_0 < 1 then (some 0) else (if a0_0 > 2000 then (some 0) else (if a0_1 < (wrap64 ((-1000) * a0_0)) then (some 0) else (if a0_1 > (wrap64 (1000 * a0_0)) then (some 0) else (if a0_2 < 0 then (some 0) else (if a0_2 > (wrap64 (1000000 * a0_0)) then (some 0) else (some (mx 0 (wrap64 ((wrap64 (a0_0 * a0_2)) - (wrap64 (a0_1 * a0_1)))))))))))
set_option maxHeartbeats 8000000 in
set_option maxRecDepth 100000 in
theorem window_Variance.calls (a0_0 : Int) (a0_1 : Int) (a0_2 : Int) (r : Int) (w : World) (h : window_Variance.f a0_0 a0_1 a0_2 = some r) :
  Calls Try.prog 77 #[.agg #[.int .i64 a0_0,.int .i64 a0_1,.int .i64 a0_2]] w fun e w'=>e = .returned (.int .i64 r)∧Below w.heap.size w w':=by
 have hu97:=Try.underlying97
 have HB:=A_ (Below.refl w.heap.size w)
 have H : (if a0_0 < 1 then (some 0) else (if a0_0 > 2000 then (some 0) else (if a0_1 < (wrap64 ((-1000) * a0_0)) then (some 0) else (if a0_1 > (wrap64 (1000 * a0_0)) then (some 0) else (if a0_2 < 0 then (some 0) else (if a0_2 > (wrap64 (1000000 * a0_0)) then (some 0) else (some (mx 0 (wrap64 ((wrap64 (a0_0 * a0_2)) - (wrap64 (a0_1 * a0_1)))))))))))) = some r:=h
 clear h
 by_cases c2 : a0_0 < 1
 ·
  rw [if_pos c2] at H
  have c2b0 : decide (a0_0 < 1) = true:=decide_eq_true c2
  clear c2
  obtain rfl:=Option.some.inj H
  go_enter Try.func77,Try.ntmps77
  go_wp2_with (first|((with_reducible refine gate_dst (N:=1) rfl ?_);refine box_event ?hg (N:=1) ?hd (cs:=#[.int .i64 a0_0,.int .i64 a0_1,.int .i64 a0_2]) (t:=97) ?hr ?_;(case hd=>rfl);(case hg=>rfl);(case hr=>first|(go_simp;done)|(go_simp;rfl));intro gb220 hg w3 hbox hb;have n0_:=A_ (below_step (by repeat (first|(with_reducible first|exact HB.out|apply ba|apply bb|apply bc)|exact HB.out)) hb);have n1_:=A_ (hbox);have n2_:=A_ ((by rw [hg];exact (below_size (by repeat (first|(with_reducible first|exact HB.out|apply ba|apply bb|apply bc)|exact HB.out))) : w.heap.size ≤ gb220));have n3_:=A_ ((by rw [hg];exact (below_size (by repeat (first|(with_reducible first|exact HB.out|apply ba|apply bb|apply bc)|exact HB.out))) : w.heap.size ≤ gb220));clear HB;have HB:=n0_;have BK220:=n1_;have GW220:=n2_;have GE220:=n3_;clear n0_ n1_ n2_ n3_;clear hb hbox hg;have hcz4_0 : w3.cell? ⟨gb220,0,none⟩ = some (.int .i64 a0_0):=(blk_cell BK220.out 0).trans rfl;have hcz4_1 : w3.cell? ⟨gb220,1,none⟩ = some (.int .i64 a0_1):=(blk_cell BK220.out 1).trans rfl;have hcz4_2 : w3.cell? ⟨gb220,2,none⟩ = some (.int .i64 a0_2):=(blk_cell BK220.out 2).trans rfl;have hfz4_0:=blk_frozen BK220.out 0;have hfz4_1:=blk_frozen BK220.out 1;have hfz4_2:=blk_frozen BK220.out 2))
  go_ret
  exact ⟨by first|rfl|(simp [errW_none,errW_some] <;> rfl)|(simp [*,errW_none,errW_some] <;> rfl),by repeat (first|(with_reducible first|exact HB.out|apply ba|apply bb|apply bc|refine below_set ?_ GE220.out)|exact HB.out)⟩
 ·
  rw [if_neg c2] at H
  have c2b0 : decide (a0_0 < 1) = false:=decide_eq_false c2
  clear c2
  by_cases c5 : a0_0 > 2000
  ·
   rw [if_pos c5] at H
   have c5b0 : decide (2000 < a0_0) = true:=decide_eq_true c5
   clear c5
   obtain rfl:=Option.some.inj H
   go_enter Try.func77,Try.ntmps77
   go_wp2_with (first|((with_reducible refine gate_dst (N:=1) rfl ?_);refine box_event ?hg (N:=1) ?hd (cs:=#[.int .i64 a0_0,.int .i64 a0_1,.int .i64 a0_2]) (t:=97) ?hr ?_;(case hd=>rfl);(case hg=>rfl);(case hr=>first|(go_simp;done)|(go_simp;rfl));intro gb220 hg w6 hbox hb;have n0_:=A_ (below_step (by repeat (first|(with_reducible first|exact HB.out|apply ba|apply bb|apply bc)|exact HB.out)) hb);have n1_:=A_ (hbox);have n2_:=A_ ((by rw [hg];exact (below_size (by repeat (first|(with_reducible first|exact HB.out|apply ba|apply bb|apply bc)|exact HB.out))) : w.heap.size ≤ gb220));have n3_:=A_ ((by rw [hg];exact (below_size (by repeat (first|(with_reducible first|exact HB.out|apply ba|apply bb|apply bc)|exact HB.out))) : w.heap.size ≤ gb220));clear HB;have HB:=n0_;have BK220:=n1_;have GW220:=n2_;have GE220:=n3_;clear n0_ n1_ n2_ n3_;clear hb hbox hg;have hcz7_0 : w6.cell? ⟨gb220,0,none⟩ = some (.int .i64 a0_0):=(blk_cell BK220.out 0).trans rfl;have hcz7_1 : w6.cell? ⟨gb220,1,none⟩ = some (.int .i64 a0_1):=(blk_cell BK220.out 1).trans rfl;have hcz7_2 : w6.cell? ⟨gb220,2,none⟩ = some (.int .i64 a0_2):=(blk_cell BK220.out 2).trans rfl;have hfz7_0:=blk_frozen BK220.out 0;have hfz7_1:=blk_frozen BK220.out 1;have hfz7_2:=blk_frozen BK220.out 2))
   go_ret
   exact ⟨by first|rfl|(simp [errW_none,errW_some] <;> rfl)|(simp [*,errW_none,errW_some] <;> rfl),by repeat (first|(with_reducible first|exact HB.out|apply ba|apply bb|apply bc|refine below_set ?_ GE220.out)|exact HB.out)⟩
  ·
   rw [if_neg c5] at H
   have c5b0 : decide (2000 < a0_0) = false:=decide_eq_false c5
   clear c5
   by_cases c8 : a0_1 < (wrap64 ((-1000) * a0_0))
   ·
    rw [if_pos c8] at H
    have c8b0 : decide (a0_1 < (wrap64 ((-1000) * a0_0))) = true:=decide_eq_true c8
    clear c8
    obtain rfl:=Option.some.inj H
    go_enter Try.func77,Try.ntmps77
    go_wp2_with (first|((with_reducible refine gate_dst (N:=1) rfl ?_);refine box_event ?hg (N:=1) ?hd (cs:=#[.int .i64 a0_0,.int .i64 a0_1,.int .i64 a0_2]) (t:=97) ?hr ?_;(case hd=>rfl);(case hg=>rfl);(case hr=>first|(go_simp;done)|(go_simp;rfl));intro gb220 hg w9 hbox hb;have n0_:=A_ (below_step (by repeat (first|(with_reducible first|exact HB.out|apply ba|apply bb|apply bc)|exact HB.out)) hb);have n1_:=A_ (hbox);have n2_:=A_ ((by rw [hg];exact (below_size (by repeat (first|(with_reducible first|exact HB.out|apply ba|apply bb|apply bc)|exact HB.out))) : w.heap.size ≤ gb220));have n3_:=A_ ((by rw [hg];exact (below_size (by repeat (first|(with_reducible first|exact HB.out|apply ba|apply bb|apply bc)|exact HB.out))) : w.heap.size ≤ gb220));clear HB;have HB:=n0_;have BK220:=n1_;have GW220:=n2_;have GE220:=n3_;clear n0_ n1_ n2_ n3_;clear hb hbox hg;have hcz10_0 : w9.cell? ⟨gb220,0,none⟩ = some (.int .i64 a0_0):=(blk_cell BK220.out 0).trans rfl;have hcz10_1 : w9.cell? ⟨gb220,1,none⟩ = some (.int .i64 a0_1):=(blk_cell BK220.out 1).trans rfl;have hcz10_2 : w9.cell? ⟨gb220,2,none⟩ = some (.int .i64 a0_2):=(blk_cell BK220.out 2).trans rfl;have hfz10_0:=blk_frozen BK220.out 0;have hfz10_1:=blk_frozen BK220.out 1;have hfz10_2:=blk_frozen BK220.out 2))
    go_ret
    exact ⟨by first|rfl|(simp [errW_none,errW_some] <;> rfl)|(simp [*,errW_none,errW_some] <;> rfl),by repeat (first|(with_reducible first|exact HB.out|apply ba|apply bb|apply bc|refine below_set ?_ GE220.out)|exact HB.out)⟩
   ·
    rw [if_neg c8] at H
    have c8b0 : decide (a0_1 < (wrap64 ((-1000) * a0_0))) = false:=decide_eq_false c8
    clear c8
    by_cases c11 : a0_1 > (wrap64 (1000 * a0_0))
    ·
     rw [if_pos c11] at H
     have c11b0 : decide ((wrap64 (1000 * a0_0)) < a0_1) = true:=decide_eq_true c11
     clear c11
     obtain rfl:=Option.some.inj H
     go_enter Try.func77,Try.ntmps77
     go_wp2_with (first|((with_reducible refine gate_dst (N:=1) rfl ?_);refine box_event ?hg (N:=1) ?hd (cs:=#[.int .i64 a0_0,.int .i64 a0_1,.int .i64 a0_2]) (t:=97) ?hr ?_;(case hd=>rfl);(case hg=>rfl);(case hr=>first|(go_simp;done)|(go_simp;rfl));intro gb220 hg w12 hbox hb;have n0_:=A_ (below_step (by repeat (first|(with_reducible first|exact HB.out|apply ba|apply bb|apply bc)|exact HB.out)) hb);have n1_:=A_ (hbox);have n2_:=A_ ((by rw [hg];exact (below_size (by repeat (first|(with_reducible first|exact HB.out|apply ba|apply bb|apply bc)|exact HB.out))) : w.heap.size ≤ gb220));have n3_:=A_ ((by rw [hg];exact (below_size (by repeat (first|(with_reducible first|exact HB.out|apply ba|apply bb|apply bc)|exact HB.out))) : w.heap.size ≤ gb220));clear HB;have HB:=n0_;have BK220:=n1_;have GW220:=n2_;have GE220:=n3_;clear n0_ n1_ n2_ n3_;clear hb hbox hg;have hcz13_0 : w12.cell? ⟨gb220,0,none⟩ = some (.int .i64 a0_0):=(blk_cell BK220.out 0).trans rfl;have hcz13_1 : w12.cell? ⟨gb220,1,none⟩ = some (.int .i64 a0_1):=(blk_cell BK220.out 1).trans rfl;have hcz13_2 : w12.cell? ⟨gb220,2,none⟩ = some (.int .i64 a0_2):=(blk_cell BK220.out 2).trans rfl;have hfz13_0:=blk_frozen BK220.out 0;have hfz13_1:=blk_frozen BK220.out 1;have hfz13_2:=blk_frozen BK220.out 2))
     go_ret
     exact ⟨by first|rfl|(simp [errW_none,errW_some] <;> rfl)|(simp [*,errW_none,errW_some] <;> rfl),by repeat (first|(with_reducible first|exact HB.out|apply ba|apply bb|apply bc|refine below_set ?_ GE220.out)|exact HB.out)⟩
    ·
     rw [if_neg c11] at H
     have c11b0 : decide ((wrap64 (1000 * a0_0)) < a0_1) = false:=decide_eq_false c11
     clear c11
     by_cases c14 : a0_2 < 0
     ·
      rw [if_pos c14] at H
      have c14b0 : decide (a0_2 < 0) = true:=decide_eq_true c14
      clear c14
      obtain rfl:=Option.some.inj H
      go_enter Try.func77,Try.ntmps77
      go_wp2_with (first|((with_reducible refine gate_dst (N:=1) rfl ?_);refine box_event ?hg (N:=1) ?hd (cs:=#[.int .i64 a0_0,.int .i64 a0_1,.int .i64 a0_2]) (t:=97) ?hr ?_;(case hd=>rfl);(case hg=>rfl);(case hr=>first|(go_simp;done)|(go_simp;rfl));intro gb220 hg w15 hbox hb;have n0_:=A_ (below_step (by repeat (first|(with_reducible first|exact HB.out|apply ba|apply bb|apply bc)|exact HB.out)) hb);have n1_:=A_ (hbox);have n2_:=A_ ((by rw [hg];exact (below_size (by repeat (first|(with_reducible first|exact HB.out|apply ba|apply bb|apply bc)|exact HB.out))) : w.heap.size ≤ gb220));have n3_:=A_ ((by rw [hg];exact (below_size (by repeat (first|(with_reducible first|exact HB.out|apply ba|apply bb|apply bc)|exact HB.out))) : w.heap.size ≤ gb220));clear HB;have HB:=n0_;have BK220:=n1_;have GW220:=n2_;have GE220:=n3_;clear n0_ n1_ n2_ n3_;clear hb hbox hg;have hcz16_0 : w15.cell? ⟨gb220,0,none⟩ = some (.int .i64 a0_0):=(blk_cell BK220.out 0).trans rfl;have hcz16_1 : w15.cell? ⟨gb220,1,none⟩ = some (.int .i64 a0_1):=(blk_cell BK220.out 1).trans rfl;have hcz16_2 : w15.cell? ⟨gb220,2,none⟩ = some (.int .i64 a0_2):=(blk_cell BK220.out 2).trans rfl;have hfz16_0:=blk_frozen BK220.out 0;have hfz16_1:=blk_frozen BK220.out 1;have hfz16_2:=blk_frozen BK220.out 2))
      go_ret
      exact ⟨by first|rfl|(simp [errW_none,errW_some] <;> rfl)|(simp [*,errW_none,errW_some] <;> rfl),by repeat (first|(with_reducible first|exact HB.out|apply ba|apply bb|apply bc|refine below_set ?_ GE220.out)|exact HB.out)⟩
     ·
      rw [if_neg c14] at H
      have c14b0 : decide (a0_2 < 0) = false:=decide_eq_false c14
      clear c14
      by_cases c17 : a0_2 > (wrap64 (1000000 * a0_0))
      ·
       rw [if_pos c17] at H
       have c17b0 : decide ((wrap64 (1000000 * a0_0)) < a0_2) = true:=decide_eq_true c17
       clear c17
       obtain rfl:=Option.some.inj H
       go_enter Try.func77,Try.ntmps77
       go_wp2_with (first|((with_reducible refine gate_dst (N:=1) rfl ?_);refine box_event ?hg (N:=1) ?hd (cs:=#[.int .i64 a0_0,.int .i64 a0_1,.int .i64 a0_2]) (t:=97) ?hr ?_;(case hd=>rfl);(case hg=>rfl);(case hr=>first|(go_simp;done)|(go_simp;rfl));intro gb220 hg w18 hbox hb;have n0_:=A_ (below_step (by repeat (first|(with_reducible first|exact HB.out|apply ba|apply bb|apply bc)|exact HB.out)) hb);have n1_:=A_ (hbox);have n2_:=A_ ((by rw [hg];exact (below_size (by repeat (first|(with_reducible first|exact HB.out|apply ba|apply bb|apply bc)|exact HB.out))) : w.heap.size ≤ gb220));have n3_:=A_ ((by rw [hg];exact (below_size (by repeat (first|(with_reducible first|exact HB.out|apply ba|apply bb|apply bc)|exact HB.out))) : w.heap.size ≤ gb220));clear HB;have HB:=n0_;have BK220:=n1_;have GW220:=n2_;have GE220:=n3_;clear n0_ n1_ n2_ n3_;clear hb hbox hg;have hcz19_0 : w18.cell? ⟨gb220,0,none⟩ = some (.int .i64 a0_0):=(blk_cell BK220.out 0).trans rfl;have hcz19_1 : w18.cell? ⟨gb220,1,none⟩ = some (.int .i64 a0_1):=(blk_cell BK220.out 1).trans rfl;have hcz19_2 : w18.cell? ⟨gb220,2,none⟩ = some (.int .i64 a0_2):=(blk_cell BK220.out 2).trans rfl;have hfz19_0:=blk_frozen BK220.out 0;have hfz19_1:=blk_frozen BK220.out 1;have hfz19_2:=blk_frozen BK220.out 2))
       go_ret
       exact ⟨by first|rfl|(simp [errW_none,errW_some] <;> rfl)|(simp [*,errW_none,errW_some] <;> rfl),by repeat (first|(with_reducible first|exact HB.out|apply ba|apply bb|apply bc|refine below_set ?_ GE220.out)|exact HB.out)⟩
      ·
       rw [if_neg c17] at H
       have c17b0 : decide ((wrap64 (1000000 * a0_0)) < a0_2) = false:=decide_eq_false c17
       clear c17
       obtain ⟨ji20,hji20⟩ : ∃ j_ : Int,(mx 0 (wrap64 ((wrap64 (a0_0 * a0_2)) - (wrap64 (a0_1 * a0_1))))) = j_:=⟨_,rfl⟩
       replace H : (some ji20) = some r:=by first|(rw [hji20] at H;exact H)|(simp only [hji20] at H ⊢;exact H)
       (try (have hji20l : 0 ≤ ji20:=by (rw [← hji20];unfold mx;(repeat' split) <;> omega)))
       (try (have hji20m : 0 ≤ ji20:=by omega))
       have hji20_ : (if 0 < (wrap64 ((wrap64 (a0_0 * a0_2)) - (wrap64 (a0_1 * a0_1)))) then (wrap64 ((wrap64 (a0_0 * a0_2)) - (wrap64 (a0_1 * a0_1)))) else 0) = ji20:=hji20
       obtain rfl:=Option.some.inj H
       go_enter Try.func77,Try.ntmps77
       go_wp2_with (first|((with_reducible refine gate_dst (N:=1) rfl ?_);refine box_event ?hg (N:=1) ?hd (cs:=#[.int .i64 a0_0,.int .i64 a0_1,.int .i64 a0_2]) (t:=97) ?hr ?_;(case hd=>rfl);(case hg=>rfl);(case hr=>first|(go_simp;done)|(go_simp;rfl));intro gb220 hg w21 hbox hb;have n0_:=A_ (below_step (by repeat (first|(with_reducible first|exact HB.out|apply ba|apply bb|apply bc)|exact HB.out)) hb);have n1_:=A_ (hbox);have n2_:=A_ ((by rw [hg];exact (below_size (by repeat (first|(with_reducible first|exact HB.out|apply ba|apply bb|apply bc)|exact HB.out))) : w.heap.size ≤ gb220));have n3_:=A_ ((by rw [hg];exact (below_size (by repeat (first|(with_reducible first|exact HB.out|apply ba|apply bb|apply bc)|exact HB.out))) : w.heap.size ≤ gb220));clear HB;have HB:=n0_;have BK220:=n1_;have GW220:=n2_;have GE220:=n3_;clear n0_ n1_ n2_ n3_;clear hb hbox hg;have hcz22_0 : w21.cell? ⟨gb220,0,none⟩ = some (.int .i64 a0_0):=(blk_cell BK220.out 0).trans rfl;have hcz22_1 : w21.cell? ⟨gb220,1,none⟩ = some (.int .i64 a0_1):=(blk_cell BK220.out 1).trans rfl;have hcz22_2 : w21.cell? ⟨gb220,2,none⟩ = some (.int .i64 a0_2):=(blk_cell BK220.out 2).trans rfl;have hfz22_0:=blk_frozen BK220.out 0;have hfz22_1:=blk_frozen BK220.out 1;have hfz22_2:=blk_frozen BK220.out 2))
       go_ret
       exact ⟨by first|rfl|(simp [errW_none,errW_some] <;> rfl)|(simp only [← hji20];first|rfl|(simp [errW_none,errW_some] <;> rfl))|(simp [*,errW_none,errW_some] <;> rfl),by repeat (first|(with_reducible first|exact HB.out|apply ba|apply bb|apply bc|refine below_set ?_ GE220.out)|exact HB.out)⟩

/-! ### normal_variance: function 53 -/
def normal_variance.l0 : Nat → List Int → Int → Int → Int → Int → Int → Option (Int)
 | 0,_,_,_,_,_,_=>none
 | k + 1,x9,x10,x11,x222000,x222001,x222002=>if x11 < x10 then (if 0 ≤ x11 then (if x11 < (x9.length : Int) then (normal_variance.l0 k x9 x10 (wrap64 (x11 + 1)) x222000 (wrap64 (x222001 + (rd x9 x11))) (wrap64 (x222002 + (wrap64 ((rd x9 x11) * (rd x9 x11)))))) else (none)) else (none)) else ((window_Variance.f x222000 x222001 x222002).bind fun t223=>(some t223))
def normal_variance.f (k : Nat) (l0 : List Int) : Option (Int):=normal_variance.l0 k l0 (l0.length : Int) 0 (l0.length : Int) 0 0
theorem normal_variance.mono_l : ∀ k,(∀ y0 y1 y2 y3 y4 y5,LeO (normal_variance.l0 k y0 y1 y2 y3 y4 y5) (normal_variance.l0 (k + 1) y0 y1 y2 y3 y4 y5))
 | 0=>fun _ _ _ _ _ _ r h=>by simp [normal_variance.l0] at h
 | k + 1=>by
  have ih0:=normal_variance.mono_l k
  ·
   intro y0 y1 y2 y3 y4 y5
   unfold normal_variance.l0
   repeat' first
   | (with_reducible exact ih0 _ _ _ _ _ _)
   | (with_reducible exact LeO.refl _)
   | (with_reducible exact LeO.none _)
   | (with_reducible refine LeO.ite ?_ ?_)
   | (with_reducible refine LeO.bind ?_ (fun _=>?_))
   | exact ih0 _ _ _ _ _ _
   | exact LeO.none _
   | refine LeO.ite ?_ ?_
   | refine LeO.bind ?_ (fun _=>?_)
theorem normal_variance.mono : ∀ a0 k,LeO (normal_variance.f k a0) (normal_variance.f (k + 1) a0):=by
 intro a0 k
 have ih0:=normal_variance.mono_l k
 unfold normal_variance.f
 repeat' first
   | (with_reducible exact ih0 _ _ _ _ _ _)
   | (with_reducible exact LeO.refl _)
   | (with_reducible exact LeO.none _)
   | (with_reducible refine LeO.ite ?_ ?_)
   | (with_reducible refine LeO.bind ?_ (fun _=>?_))
   | exact ih0 _ _ _ _ _ _
   | exact LeO.none _
   | refine LeO.ite ?_ ?_
   | refine LeO.bind ?_ (fun _=>?_)
set_option maxHeartbeats 8000000 in
set_option maxRecDepth 100000 in
theorem normal_variance.calls (k : Nat) (A0 : Option Addr) (c0 : Nat) (l0 : List Int) (r : Int) (w : World) (hr0 : Kd.C (Kd.int .i64) w A0 l0.length l0) (hc0 : l0.length ≤ c0) (h : normal_variance.f k l0 = some r) :
  Calls Try.prog 53 #[.slice A0 l0.length c0] w fun e w'=>e = .returned (.int .i64 r)∧Below w.heap.size w w':=by
 have hu97:=Try.underlying97
 have HR0:=A_ hr0
 have HC0:=A_ hc0
 clear hr0 hc0
 have HB:=A_ (Below.refl w.heap.size w)
 have H : (normal_variance.l0 k l0 (l0.length : Int) 0 (l0.length : Int) 0 0) = some r:=h
 clear h
 have H':=A_ H
 clear H
 go_enter Try.func53,Try.ntmps53
 go_wp2_with (first|((with_reducible refine gate_dst (N:=3) rfl ?_);refine box_event ?hg (N:=3) ?hd (cs:=#[.int .i64 0,.int .i64 0,.int .i64 0]) (t:=97) ?hr ?_;(case hd=>rfl);(case hg=>rfl);(case hr=>first|(go_simp;done)|(go_simp;rfl));intro gb221 hg w2 hbox hb;have n0_:=A_ (below_step (by repeat (first|(with_reducible first|exact HB.out|apply ba|apply bb|apply bc)|exact HB.out)) hb);have n1_:=A_ (hbox);have n2_:=A_ ((by rw [hg];exact (below_size (by repeat (first|(with_reducible first|exact HB.out|apply ba|apply bb|apply bc)|exact HB.out))) : w.heap.size ≤ gb221));have n3_:=A_ ((by rw [hg];exact (below_size (by repeat (first|(with_reducible first|exact HB.out|apply ba|apply bb|apply bc)|exact HB.out))) : w.heap.size ≤ gb221));clear HB;have HB:=n0_;have BK221:=n1_;have GW221:=n2_;have GE221:=n3_;clear n0_ n1_ n2_ n3_;clear hb hbox hg;have hcz3_0 : w2.cell? ⟨gb221,0,none⟩ = some (.int .i64 0):=(blk_cell BK221.out 0).trans rfl;have hcz3_1 : w2.cell? ⟨gb221,1,none⟩ = some (.int .i64 0):=(blk_cell BK221.out 1).trans rfl;have hcz3_2 : w2.cell? ⟨gb221,2,none⟩ = some (.int .i64 0):=(blk_cell BK221.out 2).trans rfl;have hfz3_0:=blk_frozen BK221.out 0;have hfz3_1:=blk_frozen BK221.out 1;have hfz3_2:=blk_frozen BK221.out 2))
 go_loopg [11] k (fun kq v11 w'=>∃ (x11_1 : Int) (x222001_1 : Int) (x222002_1 : Int),v11 = .int .i64 x11_1∧Aside0 (normal_variance.l0 kq l0 (l0.length : Int) x11_1 (l0.length : Int) x222001_1 x222002_1 = some r)∧Aside0 (kq ≤ k)∧Aside0 (w'.heap[gb221]? = some (.cells #[.int .i64 (l0.length : Int),.int .i64 x222001_1,.int .i64 x222002_1] 97 (0,0)))∧Aside0 (Below w.heap.size w w'))
 case atStart=>exact ⟨(0),(0),(0),(by first|rfl|(simp;done)|(simp [*];done)),H',⟨Nat.le_refl _⟩,⟨by (with_reducible repeat (first|refine blk_drewN ?_ _|refine blk_drew ?_|refine blk_alloc ?_ _));refine blk_put (cs:=#[.int .i64 (l0.length : Int),.int .i64 0,.int .i64 0]) ?_ 2 _ rfl;(with_reducible repeat (first|refine blk_drewN ?_ _|refine blk_drew ?_|refine blk_alloc ?_ _));refine blk_put (cs:=#[.int .i64 (l0.length : Int),.int .i64 0,.int .i64 0]) ?_ 1 _ rfl;(with_reducible repeat (first|refine blk_drewN ?_ _|refine blk_drew ?_|refine blk_alloc ?_ _));refine blk_put (cs:=#[.int .i64 0,.int .i64 0,.int .i64 0]) ?_ 0 _ rfl;(with_reducible repeat (first|refine blk_drewN ?_ _|refine blk_drew ?_|refine blk_alloc ?_ _));exact BK221.out⟩,⟨by repeat (first|(with_reducible first|exact HB.out|apply ba|apply bb|apply bc|refine below_set ?_ GE221.out)|exact HB.out)⟩⟩
 case round =>
  clear H'
  try clear p2
  try clear hcz3_0
  try clear hcz3_1
  try clear hcz3_2
  try clear hfz3_0
  try clear hfz3_1
  try clear hfz3_2
  obtain ⟨x11_1,x222001_1,x222002_1,rfl,HA,HK1,BK221,HB⟩:=hrel
  cases gk with
  | zero=>exact absurd HA.out (by simp [normal_variance.l0])
  | succ k1 =>
   have H:=HA.out
   clear HA
   simp only [normal_variance.l0] at H
   by_cases c4 : x11_1 < (l0.length : Int)
   ·
    rw [if_pos c4] at H
    have c4b0 : decide (x11_1 < (l0.length : Int)) = true:=decide_eq_true c4
    clear c4
    by_cases c5 : 0 ≤ x11_1
    ·
     rw [if_pos c5] at H
     have c5b0 : decide (0 ≤ x11_1) = true:=decide_eq_true c5
     clear c5
     by_cases c6 : x11_1 < (l0.length : Int)
     ·
      rw [if_pos c6] at H
      have c6b0 : decide (x11_1 < (l0.length : Int)) = true:=decide_eq_true c6
      clear c6
      have H':=A_ H
      clear H
      have p222 : 0 ≤ (x11_1 : Int):=of_decide_eq_true (by first|(with_reducible assumption)|assumption)
      have q222 : x11_1 < (l0.length : Int):=of_decide_eq_true (by first|(with_reducible assumption)|assumption)
      obtain ⟨ad222,e222,hx222_0⟩:=Kd.at_int HR0.out x11_1 p222 q222
      cases e222
      replace hx222_0:=(HB.out.cell (World.block_lt_of_cell? w _ hx222_0)).trans hx222_0
      replace p222:=eq_true p222
      replace q222:=eq_true q222
      have hcz7_0 : wr.cell? ⟨gb221,0,none⟩ = some (.int .i64 (l0.length : Int)):=(blk_cell BK221.out 0).trans rfl
      have hcz7_1 : wr.cell? ⟨gb221,1,none⟩ = some (.int .i64 x222001_1):=(blk_cell BK221.out 1).trans rfl
      have hcz7_2 : wr.cell? ⟨gb221,2,none⟩ = some (.int .i64 x222002_1):=(blk_cell BK221.out 2).trans rfl
      have hfz7_0:=blk_frozen BK221.out 0
      have hfz7_1:=blk_frozen BK221.out 1
      have hfz7_2:=blk_frozen BK221.out 2
      go_wp2
      go_roundg k1
      case measure=>have:=HK1.out;omega
      case rel=>exact ⟨(wrap64 (x11_1 + 1)),(wrap64 (x222001_1 + (rd l0 x11_1))),(wrap64 (x222002_1 + (wrap64 ((rd l0 x11_1) * (rd l0 x11_1))))),(by first|rfl|(simp;done)|(simp [*];done)),H',⟨by have:=HK1.out;omega⟩,⟨by (with_reducible repeat (first|refine blk_drewN ?_ _|refine blk_drew ?_|refine blk_alloc ?_ _));refine blk_put (cs:=#[.int .i64 (l0.length : Int),.int .i64 (wrap64 (x222001_1 + (rd l0 x11_1))),.int .i64 x222002_1]) ?_ 2 _ rfl;(with_reducible repeat (first|refine blk_drewN ?_ _|refine blk_drew ?_|refine blk_alloc ?_ _));refine blk_put (cs:=#[.int .i64 (l0.length : Int),.int .i64 x222001_1,.int .i64 x222002_1]) ?_ 1 _ rfl;(with_reducible repeat (first|refine blk_drewN ?_ _|refine blk_drew ?_|refine blk_alloc ?_ _));exact BK221.out⟩,⟨by repeat (first|(with_reducible first|exact HB.out|apply ba|apply bb|apply bc|refine below_set ?_ GE221.out)|exact HB.out)⟩⟩
     ·
      rw [if_neg c6] at H
      exact absurd H (by simp)
    ·
     rw [if_neg c5] at H
     exact absurd H (by simp)
   ·
    rw [if_neg c4] at H
    have c4b0 : decide (x11_1 < (l0.length : Int)) = false:=decide_eq_false c4
    clear c4
    replace H:=Option.bind_eq_some_iff.mp H
    obtain ⟨t223,A80,H⟩:=H
    replace H : (some t223) = some r:=H
    have A8:=A_ A80
    clear A80
    obtain rfl:=Option.some.inj H
    have hcz9_0 : wr.cell? ⟨gb221,0,none⟩ = some (.int .i64 (l0.length : Int)):=(blk_cell BK221.out 0).trans rfl
    have hcz9_1 : wr.cell? ⟨gb221,1,none⟩ = some (.int .i64 x222001_1):=(blk_cell BK221.out 1).trans rfl
    have hcz9_2 : wr.cell? ⟨gb221,2,none⟩ = some (.int .i64 x222002_1):=(blk_cell BK221.out 2).trans rfl
    have hfz9_0:=blk_frozen BK221.out 0
    have hfz9_1:=blk_frozen BK221.out 1
    have hfz9_2:=blk_frozen BK221.out 2
    go_wp2_with (first|((with_reducible refine gate_callee (f:=77) rfl ?_);refine goesL_ (some 29) rfl rfl Try.func77 (by kernel_rfl) rfl #[.agg #[.int .i64 (l0.length : Int),.int .i64 x222001_1,.int .i64 x222002_1]] rfl (by (try simp only [List.map_toArray,List.map_cons,List.map_nil]);first|done|rfl|(simp only [List.length_drop,List.length_take];rfl)) ?_;(with_reducible refine (window_Variance.calls (l0.length : Int) x222001_1 x222002_1 t223 _ A8.out).mono ?_);rintro e w10 ⟨rfl,hb⟩;refine ⟨_,rfl,?_⟩;have n0_:=A_ (blk_below (g:=gb221) (o:=.cells #[.int .i64 (l0.length : Int),.int .i64 x222001_1,.int .i64 x222002_1] 97 (0,0)) (by (with_reducible repeat (first|refine blk_drewN ?_ _|refine blk_drew ?_|refine blk_alloc ?_ _));exact BK221.out) hb);have n1_:=A_ (below_step (by repeat (first|(with_reducible first|exact HB.out|apply ba|apply bb|apply bc|refine below_set ?_ GE221.out)|exact HB.out)) hb);clear BK221;clear HB;have BK221:=n0_;have HB:=n1_;clear n0_ n1_;(try clear hb);(try clear hb2);(try clear hk);(try clear hi)))
    go_ret
    exact ⟨by first|rfl|(simp [errW_none,errW_some] <;> rfl)|(simp [*,errW_none,errW_some] <;> rfl),by repeat (first|(with_reducible first|exact HB.out|apply ba|apply bb|apply bc|refine below_set ?_ GE221.out)|exact HB.out)⟩

/-! ### ratio_divisor: function 78 -/
def ratio_divisor.l0 : Nat → Int → Int → Option (Int)
 | 0,_,_=>none
 | k + 1,x0,x1=>if x1 = 0 then (some x0) else (ratio_divisor.l0 k x1 (Int.tmod x0 x1))
def ratio_divisor.f (k : Nat) (a0 : Int) (a1 : Int) : Option (Int):=ratio_divisor.l0 k a0 a1
theorem ratio_divisor.mono_l : ∀ k,(∀ y0 y1,LeO (ratio_divisor.l0 k y0 y1) (ratio_divisor.l0 (k + 1) y0 y1))
 | 0=>fun _ _ r h=>by simp [ratio_divisor.l0] at h
 | k + 1=>by
  have ih0:=ratio_divisor.mono_l k
  ·
   intro y0 y1
   unfold ratio_divisor.l0
   repeat' first
   | (with_reducible exact ih0 _ _)
   | (with_reducible exact LeO.refl _)
   | (with_reducible exact LeO.none _)
   | (with_reducible refine LeO.ite ?_ ?_)
   | (with_reducible refine LeO.bind ?_ (fun _=>?_))
   | exact ih0 _ _
   | exact LeO.none _
   | refine LeO.ite ?_ ?_
   | refine LeO.bind ?_ (fun _=>?_)
theorem ratio_divisor.mono : ∀ a0 a1 k,LeO (ratio_divisor.f k a0 a1) (ratio_divisor.f (k + 1) a0 a1):=by
 intro a0 a1 k
 have ih0:=ratio_divisor.mono_l k
 unfold ratio_divisor.f
 repeat' first
   | (with_reducible exact ih0 _ _)
   | (with_reducible exact LeO.refl _)
   | (with_reducible exact LeO.none _)
   | (with_reducible refine LeO.ite ?_ ?_)
   | (with_reducible refine LeO.bind ?_ (fun _=>?_))
   | exact ih0 _ _
   | exact LeO.none _
   | refine LeO.ite ?_ ?_
   | refine LeO.bind ?_ (fun _=>?_)
set_option maxHeartbeats 8000000 in
set_option maxRecDepth 100000 in
theorem ratio_divisor.calls (k : Nat) (a0 : Int) (a1 : Int) (r : Int) (w : World) (h : ratio_divisor.f k a0 a1 = some r) :
  Calls Try.prog 78 #[.int .i64 a0,.int .i64 a1] w fun e w'=>e = .returned (.int .i64 r)∧Drawn0 w w':=by
 have H : (ratio_divisor.l0 k a0 a1) = some r:=h
 clear h
 have H':=A_ H
 clear H
 go_enter Try.func78,Try.ntmps78
 go_wp2
 repeat (go_quiet (fail);try go_wp2)
 go_loopg [0,1] k (fun kq v0 v1 w'=>∃ (x0_1 : Int) (x1_1 : Int),v0 = .int .i64 x0_1∧v1 = .int .i64 x1_1∧Aside0 (ratio_divisor.l0 kq x0_1 x1_1 = some r)∧Aside0 (kq ≤ k)∧Drawn0 w w')
 case atStart=>exact ⟨(a0),(a1),(by first|rfl|(simp;done)|(simp [*];done)),(by first|rfl|(simp;done)|(simp [*];done)),H',⟨Nat.le_refl _⟩,by repeat (first|exact Drawn0.refl _|apply Drawn0.step)⟩
 case round =>
  clear H'
  try clear p2
  obtain ⟨x0_1,x1_1,rfl,rfl,HA,HK1,⟨m1,rfl⟩⟩:=hrel
  cases gk with
  | zero=>exact absurd HA.out (by simp [ratio_divisor.l0])
  | succ k1 =>
   have H:=HA.out
   clear HA
   simp only [ratio_divisor.l0] at H
   by_cases c3 : x1_1 = 0
   ·
    rw [if_pos c3] at H
    have c3b0 : (x1_1 == 0) = true:=beq_iff_eq.mpr c3
    have c3b1 : (x1_1 != 0) = false:=bne_eq_false_iff_eq.mpr c3
    clear c3
    obtain rfl:=Option.some.inj H
    go_wp2
    repeat (go_quiet (fail);try go_wp2)
    go_ret
    exact ⟨by first|rfl|(simp;done)|(simp [*];done),by repeat (first|exact Drawn0.refl _|apply Drawn0.step)⟩
   ·
    rw [if_neg c3] at H
    have c3b0 : (x1_1 == 0) = false:=beq_eq_false_iff_ne.mpr c3
    have c3b1 : (x1_1 != 0) = true:=bne_iff_ne.mpr c3
    have H':=A_ H
    clear H
    go_wp2
    repeat (go_quiet (fail);try go_wp2)
    go_roundg k1
    case measure=>have:=HK1.out;omega
    case rel=>exact ⟨(x1_1),(Int.tmod x0_1 x1_1),(by first|rfl|(simp;done)|(simp [*];done)),(by first|rfl|(simp;done)|(simp [*];done)),H',⟨by have:=HK1.out;omega⟩,by repeat (first|exact Drawn0.refl _|apply Drawn0.step)⟩

/-! ### ratio_within: function 79 -/
def ratio_within.f (a0_0 : Int) (a0_1 : Int) : Option (Bool):=if a0_0 ≥ 0 then (if a0_0 ≤ 2305843009213693952 then (if a0_1 ≥ 1 then (some (decide (a0_1 ≤ 1152921504606846976))) else (some false)) else (some false)) else (some false)
set_option maxHeartbeats 8000000 in
set_option maxRecDepth 100000 in
theorem ratio_within.calls (a0_0 : Int) (a0_1 : Int) (r : Bool) (w : World) (h : ratio_within.f a0_0 a0_1 = some r) :
  Calls Try.prog 79 #[.agg #[.int .i64 a0_0,.int .i64 a0_1]] w fun e w'=>e = .returned (.bool r)∧Below w.heap.size w w':=by
 have hu29:=Try.underlying29
 have HB:=A_ (Below.refl w.heap.size w)
 have H : (if a0_0 ≥ 0 then (if a0_0 ≤ 2305843009213693952 then (if a0_1 ≥ 1 then (some (decide (a0_1 ≤ 1152921504606846976))) else (some false)) else (some false)) else (some false)) = some r:=h
 clear h
 by_cases c2 : a0_0 ≥ 0
 ·
  rw [if_pos c2] at H
  have c2b0 : decide (0 ≤ a0_0) = true:=decide_eq_true c2
  clear c2
  by_cases c3 : a0_0 ≤ 2305843009213693952
  ·
   rw [if_pos c3] at H
   have c3b0 : decide (a0_0 ≤ 2305843009213693952) = true:=decide_eq_true c3
   clear c3
   by_cases c4 : a0_1 ≥ 1
   ·
    rw [if_pos c4] at H
    have c4b0 : decide (1 ≤ a0_1) = true:=decide_eq_true c4
    clear c4
    obtain rfl:=Option.some.inj H
    go_enter Try.func79,Try.ntmps79
    go_wp2_with (first|((with_reducible refine gate_dst (N:=1) rfl ?_);refine box_event ?hg (N:=1) ?hd (cs:=#[.int .i64 a0_0,.int .i64 a0_1]) (t:=29) ?hr ?_;(case hd=>rfl);(case hg=>rfl);(case hr=>first|(go_simp;done)|(go_simp;rfl));intro gb224 hg w5 hbox hb;have n0_:=A_ (below_step (by repeat (first|(with_reducible first|exact HB.out|apply ba|apply bb|apply bc)|exact HB.out)) hb);have n1_:=A_ (hbox);have n2_:=A_ ((by rw [hg];exact (below_size (by repeat (first|(with_reducible first|exact HB.out|apply ba|apply bb|apply bc)|exact HB.out))) : w.heap.size ≤ gb224));have n3_:=A_ ((by rw [hg];exact (below_size (by repeat (first|(with_reducible first|exact HB.out|apply ba|apply bb|apply bc)|exact HB.out))) : w.heap.size ≤ gb224));clear HB;have HB:=n0_;have BK224:=n1_;have GW224:=n2_;have GE224:=n3_;clear n0_ n1_ n2_ n3_;clear hb hbox hg;have hcz6_0 : w5.cell? ⟨gb224,0,none⟩ = some (.int .i64 a0_0):=(blk_cell BK224.out 0).trans rfl;have hcz6_1 : w5.cell? ⟨gb224,1,none⟩ = some (.int .i64 a0_1):=(blk_cell BK224.out 1).trans rfl;have hfz6_0:=blk_frozen BK224.out 0;have hfz6_1:=blk_frozen BK224.out 1))
    go_ret
    exact ⟨by first|rfl|(simp [errW_none,errW_some] <;> rfl)|(simp [*,errW_none,errW_some] <;> rfl),by repeat (first|(with_reducible first|exact HB.out|apply ba|apply bb|apply bc|refine below_set ?_ GE224.out)|exact HB.out)⟩
   ·
    rw [if_neg c4] at H
    have c4b0 : decide (1 ≤ a0_1) = false:=decide_eq_false c4
    clear c4
    obtain rfl:=Option.some.inj H
    go_enter Try.func79,Try.ntmps79
    go_wp2_with (first|((with_reducible refine gate_dst (N:=1) rfl ?_);refine box_event ?hg (N:=1) ?hd (cs:=#[.int .i64 a0_0,.int .i64 a0_1]) (t:=29) ?hr ?_;(case hd=>rfl);(case hg=>rfl);(case hr=>first|(go_simp;done)|(go_simp;rfl));intro gb224 hg w7 hbox hb;have n0_:=A_ (below_step (by repeat (first|(with_reducible first|exact HB.out|apply ba|apply bb|apply bc)|exact HB.out)) hb);have n1_:=A_ (hbox);have n2_:=A_ ((by rw [hg];exact (below_size (by repeat (first|(with_reducible first|exact HB.out|apply ba|apply bb|apply bc)|exact HB.out))) : w.heap.size ≤ gb224));have n3_:=A_ ((by rw [hg];exact (below_size (by repeat (first|(with_reducible first|exact HB.out|apply ba|apply bb|apply bc)|exact HB.out))) : w.heap.size ≤ gb224));clear HB;have HB:=n0_;have BK224:=n1_;have GW224:=n2_;have GE224:=n3_;clear n0_ n1_ n2_ n3_;clear hb hbox hg;have hcz8_0 : w7.cell? ⟨gb224,0,none⟩ = some (.int .i64 a0_0):=(blk_cell BK224.out 0).trans rfl;have hcz8_1 : w7.cell? ⟨gb224,1,none⟩ = some (.int .i64 a0_1):=(blk_cell BK224.out 1).trans rfl;have hfz8_0:=blk_frozen BK224.out 0;have hfz8_1:=blk_frozen BK224.out 1))
    go_ret
    exact ⟨by first|rfl|(simp [errW_none,errW_some] <;> rfl)|(simp [*,errW_none,errW_some] <;> rfl),by repeat (first|(with_reducible first|exact HB.out|apply ba|apply bb|apply bc|refine below_set ?_ GE224.out)|exact HB.out)⟩
  ·
   rw [if_neg c3] at H
   have c3b0 : decide (a0_0 ≤ 2305843009213693952) = false:=decide_eq_false c3
   clear c3
   obtain rfl:=Option.some.inj H
   go_enter Try.func79,Try.ntmps79
   go_wp2_with (first|((with_reducible refine gate_dst (N:=1) rfl ?_);refine box_event ?hg (N:=1) ?hd (cs:=#[.int .i64 a0_0,.int .i64 a0_1]) (t:=29) ?hr ?_;(case hd=>rfl);(case hg=>rfl);(case hr=>first|(go_simp;done)|(go_simp;rfl));intro gb224 hg w9 hbox hb;have n0_:=A_ (below_step (by repeat (first|(with_reducible first|exact HB.out|apply ba|apply bb|apply bc)|exact HB.out)) hb);have n1_:=A_ (hbox);have n2_:=A_ ((by rw [hg];exact (below_size (by repeat (first|(with_reducible first|exact HB.out|apply ba|apply bb|apply bc)|exact HB.out))) : w.heap.size ≤ gb224));have n3_:=A_ ((by rw [hg];exact (below_size (by repeat (first|(with_reducible first|exact HB.out|apply ba|apply bb|apply bc)|exact HB.out))) : w.heap.size ≤ gb224));clear HB;have HB:=n0_;have BK224:=n1_;have GW224:=n2_;have GE224:=n3_;clear n0_ n1_ n2_ n3_;clear hb hbox hg;have hcz10_0 : w9.cell? ⟨gb224,0,none⟩ = some (.int .i64 a0_0):=(blk_cell BK224.out 0).trans rfl;have hcz10_1 : w9.cell? ⟨gb224,1,none⟩ = some (.int .i64 a0_1):=(blk_cell BK224.out 1).trans rfl;have hfz10_0:=blk_frozen BK224.out 0;have hfz10_1:=blk_frozen BK224.out 1))
   go_ret
   exact ⟨by first|rfl|(simp [errW_none,errW_some] <;> rfl)|(simp [*,errW_none,errW_some] <;> rfl),by repeat (first|(with_reducible first|exact HB.out|apply ba|apply bb|apply bc|refine below_set ?_ GE224.out)|exact HB.out)⟩
 ·
  rw [if_neg c2] at H
  have c2b0 : decide (0 ≤ a0_0) = false:=decide_eq_false c2
  clear c2
  obtain rfl:=Option.some.inj H
  go_enter Try.func79,Try.ntmps79
  go_wp2_with (first|((with_reducible refine gate_dst (N:=1) rfl ?_);refine box_event ?hg (N:=1) ?hd (cs:=#[.int .i64 a0_0,.int .i64 a0_1]) (t:=29) ?hr ?_;(case hd=>rfl);(case hg=>rfl);(case hr=>first|(go_simp;done)|(go_simp;rfl));intro gb224 hg w11 hbox hb;have n0_:=A_ (below_step (by repeat (first|(with_reducible first|exact HB.out|apply ba|apply bb|apply bc)|exact HB.out)) hb);have n1_:=A_ (hbox);have n2_:=A_ ((by rw [hg];exact (below_size (by repeat (first|(with_reducible first|exact HB.out|apply ba|apply bb|apply bc)|exact HB.out))) : w.heap.size ≤ gb224));have n3_:=A_ ((by rw [hg];exact (below_size (by repeat (first|(with_reducible first|exact HB.out|apply ba|apply bb|apply bc)|exact HB.out))) : w.heap.size ≤ gb224));clear HB;have HB:=n0_;have BK224:=n1_;have GW224:=n2_;have GE224:=n3_;clear n0_ n1_ n2_ n3_;clear hb hbox hg;have hcz12_0 : w11.cell? ⟨gb224,0,none⟩ = some (.int .i64 a0_0):=(blk_cell BK224.out 0).trans rfl;have hcz12_1 : w11.cell? ⟨gb224,1,none⟩ = some (.int .i64 a0_1):=(blk_cell BK224.out 1).trans rfl;have hfz12_0:=blk_frozen BK224.out 0;have hfz12_1:=blk_frozen BK224.out 1))
  go_ret
  exact ⟨by first|rfl|(simp [errW_none,errW_some] <;> rfl)|(simp [*,errW_none,errW_some] <;> rfl),by repeat (first|(with_reducible first|exact HB.out|apply ba|apply bb|apply bc|refine below_set ?_ GE224.out)|exact HB.out)⟩

end Go.Proofs.Ytmckmjpfcgmalaa.PNormalRange
