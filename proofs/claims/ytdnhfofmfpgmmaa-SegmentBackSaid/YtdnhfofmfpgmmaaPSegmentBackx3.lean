/- This file proves, function by function, what the Go functions that one law uses compute; most of it was printed by a program (wip/tools of this session, over the kit's print). -/
import Derived.Test.YtdnhfofmfpgmmaaPSegmentBackx0
namespace Go.Proofs.Ytdnhfofmfpgmmaa.PSegmentBack
open Go.RowKit Go.Proofs.YtdnhfofmfpgmmaaW.PrintWords Go.Proofs.YtdnhfofmfpgmmaaW.PrintLast Go.Proofs.YtdnhfofmfpgmmaaW.PrintMore
attribute [local go_sem] max2_int min2_int max_two min_two max_three min_three max_four min_four   -- for this text's walks alone
set_option linter.unusedVariables false
set_option linter.unusedSimpArgs false

/-! ### slices_Min_int_int: function 43 -/
def slices_Min_int_int.l0 : Nat → List Int → Int → Int → Option (Int)
 | 0,_,_,_=>none
 | k + 1,x0,x3,x4=>if x4 < (x0.length : Int) then (if 0 ≤ x4 then (slices_Min_int_int.l0 k x0 (mn x3 (rd x0 x4)) (wrap64 (x4 + 1))) else (none)) else (some x3)
def slices_Min_int_int.f (k : Nat) (l0 : List Int) : Option (Int):=if (l0.length : Int) < 1 then (none) else (if 0 < (l0.length : Int) then (slices_Min_int_int.l0 k l0 (rd l0 0) 1) else (none))
theorem slices_Min_int_int.mono_l : ∀ k,(∀ y0 y1 y2,LeO (slices_Min_int_int.l0 k y0 y1 y2) (slices_Min_int_int.l0 (k + 1) y0 y1 y2))
 | 0=>fun _ _ _ r h=>by simp [slices_Min_int_int.l0] at h
 | k + 1=>by
  have ih0:=slices_Min_int_int.mono_l k
  ·
   intro y0 y1 y2
   unfold slices_Min_int_int.l0
   repeat' first|(with_reducible first|apply ih0|exact lz|refine LeO.ite ?_ ?_|refine LeO.bind ?_ fun _=>?_)
theorem slices_Min_int_int.mono : ∀ a0 k,LeO (slices_Min_int_int.f k a0) (slices_Min_int_int.f (k + 1) a0):=by
 intro a0 k
 have ih0:=slices_Min_int_int.mono_l k
 unfold slices_Min_int_int.f
 repeat' first|(with_reducible first|apply ih0|exact lz|refine LeO.ite ?_ ?_|refine LeO.bind ?_ fun _=>?_)
set_option maxHeartbeats 8000000 in
set_option maxRecDepth 100000 in
theorem slices_Min_int_int.calls (k : Nat) (A0 : Option Addr) (c0 : Nat) (l0 : List Int) (r : Int) (w : World) (hr0 : Kd.C (Kd.int .i64) w A0 l0.length l0) (hc0 : l0.length ≤ c0) (h : slices_Min_int_int.f k l0 = some r) :
  Calls Try.prog 43 #[.slice A0 l0.length c0] w fun e w'=>e = .returned (.int .i64 r)∧Below w.heap.size w w':=by
 have HR0:=A_ hr0
 have HC0:=A_ hc0
 clear hr0 hc0
 have HB:=A_ (Below.refl w.heap.size w)
 have H : (if (l0.length : Int) < 1 then (none) else (if 0 < (l0.length : Int) then (slices_Min_int_int.l0 k l0 (rd l0 0) 1) else (none))) = some r:=h
 clear h
 by_cases c2 : (l0.length : Int) < 1
 ·
  rw [if_pos c2] at H
  exact absurd H (by simp)
 ·
  rw [if_neg c2] at H
  have c2b0 : decide ((l0.length : Int) < 1) = false:=decide_eq_false c2
  have c2b1 : decide (l0.length < 1) = false:=decide_eq_false (by omega)
  clear c2
  by_cases c3 : 0 < (l0.length : Int)
  ·
   rw [if_pos c3] at H
   have c3b0 : decide (0 < (l0.length : Int)) = true:=decide_eq_true c3
   have c3b1 : decide (0 < l0.length) = true:=decide_eq_true (by omega)
   clear c3
   have H':=A_ H
   clear H
   have p163 : 0 ≤ (0 : Int):=(by omega)
   have q163 : 0 < (l0.length : Int):=of_decide_eq_true uq1
   obtain ⟨ad163,e163,hx163_0⟩:=Kd.at_int HR0.out 0 p163 q163
   cases e163
   have qi163 : (0 < l0.length) = True:=eq_true (by omega)
   (try rw [show ((0 : Int)).toNat = 0 from rfl] at hx163_0)
   (try rw [Addr.add_zero'] at hx163_0)
   replace p163:=eq_true p163
   replace q163:=eq_true q163
   go_enter Try.func43,Try.ntmps43
   go_wp2
   go_loopg [3,4] k (fun kq v3 v4 w'=>∃ (x3_1 : Int) (x4_1 : Int),v3 = .int .i64 x3_1∧v4 = .int .i64 x4_1∧Aside0 (slices_Min_int_int.l0 kq l0 x3_1 x4_1 = some r)∧Aside0 (kq ≤ k)∧Aside0 (Below w.heap.size w w'))
   case atStart=>exact ⟨(rd l0 0),(1),uq2,uq2,H',⟨Nat.le_refl _⟩,⟨uq0⟩⟩
   case round =>
    clear H'
    try clear p1
    try clear q1
    try clear hx1
    try clear qi1
    try clear c2
    try clear c2b0
    try clear c2b1
    try clear p2
    try clear c3
    try clear c3b0
    try clear c3b1
    try clear hx163_0
    try clear p163
    try clear q163
    obtain ⟨x3_1,x4_1,rfl,rfl,HA,HK1,HB⟩:=hrel
    cases gk with
    | zero=>exact absurd HA.out (by simp [slices_Min_int_int.l0])
    | succ k1 =>
     have H:=HA.out
     clear HA
     simp only [slices_Min_int_int.l0] at H
     by_cases c4 : x4_1 < (l0.length : Int)
     ·
      rw [if_pos c4] at H
      have c4b0 : decide (x4_1 < (l0.length : Int)) = true:=decide_eq_true c4
      clear c4
      by_cases c5 : 0 ≤ x4_1
      ·
       rw [if_pos c5] at H
       have c5b0 : decide (0 ≤ x4_1) = true:=decide_eq_true c5
       clear c5
       obtain ⟨ji6,hji6⟩ : ∃ j_ : Int,(mn x3_1 (rd l0 x4_1)) = j_:=⟨_,rfl⟩
       replace H : (slices_Min_int_int.l0 k1 l0 ji6 (wrap64 (x4_1 + 1))) = some r:=by first|(rw [hji6] at H;exact H)|(simp only [hji6] at H ⊢;exact H)
       have hji6_ : (if (rd l0 x4_1) < x3_1 then (rd l0 x4_1) else x3_1) = ji6:=hji6
       have H':=A_ H
       clear H
       have p164 : 0 ≤ (x4_1 : Int):=of_decide_eq_true uq1
       have q164 : x4_1 < (l0.length : Int):=of_decide_eq_true uq1
       obtain ⟨ad164,e164,hx164_0⟩:=Kd.at_int HR0.out x4_1 p164 q164
       obtain rfl : ad163 = ad164:=(by injection e164)
       replace hx164_0:=(HB.out.cell (World.block_lt_of_cell? w _ hx164_0)).trans hx164_0
       replace p164:=eq_true p164
       replace q164:=eq_true q164
       go_wp2
       go_roundg k1
       case measure=>have:=HK1.out;omega
       case rel=>exact ⟨(ji6),(wrap64 (x4_1 + 1)),(by first|rfl|(simp;done)|(simp only [← hji6] <;> (first|rfl|simp))|(simp [*];done)),uq2,H',⟨by have:=HK1.out;omega⟩,⟨uq0⟩⟩
      ·
       rw [if_neg c5] at H
       exact absurd H (by simp)
     ·
      rw [if_neg c4] at H
      have c4b0 : decide (x4_1 < (l0.length : Int)) = false:=decide_eq_false c4
      clear c4
      obtain rfl:=Option.some.inj H
      go_wp2
      go_ret
      exact ⟨by first|rfl|(simp [errW_none,errW_some] <;> rfl)|(simp [*,errW_none,errW_some] <;> rfl),uq0⟩
  ·
   rw [if_neg c3] at H
   exact absurd H (by simp)

/-! ### slices_Max_int_int: function 44 -/
def slices_Max_int_int.l0 : Nat → List Int → Int → Int → Option (Int)
 | 0,_,_,_=>none
 | k + 1,x0,x3,x4=>if x4 < (x0.length : Int) then (if 0 ≤ x4 then (slices_Max_int_int.l0 k x0 (mx x3 (rd x0 x4)) (wrap64 (x4 + 1))) else (none)) else (some x3)
def slices_Max_int_int.f (k : Nat) (l0 : List Int) : Option (Int):=if (l0.length : Int) < 1 then (none) else (if 0 < (l0.length : Int) then (slices_Max_int_int.l0 k l0 (rd l0 0) 1) else (none))
theorem slices_Max_int_int.mono_l : ∀ k,(∀ y0 y1 y2,LeO (slices_Max_int_int.l0 k y0 y1 y2) (slices_Max_int_int.l0 (k + 1) y0 y1 y2))
 | 0=>fun _ _ _ r h=>by simp [slices_Max_int_int.l0] at h
 | k + 1=>by
  have ih0:=slices_Max_int_int.mono_l k
  ·
   intro y0 y1 y2
   unfold slices_Max_int_int.l0
   repeat' first|(with_reducible first|apply ih0|exact lz|refine LeO.ite ?_ ?_|refine LeO.bind ?_ fun _=>?_)
theorem slices_Max_int_int.mono : ∀ a0 k,LeO (slices_Max_int_int.f k a0) (slices_Max_int_int.f (k + 1) a0):=by
 intro a0 k
 have ih0:=slices_Max_int_int.mono_l k
 unfold slices_Max_int_int.f
 repeat' first|(with_reducible first|apply ih0|exact lz|refine LeO.ite ?_ ?_|refine LeO.bind ?_ fun _=>?_)
set_option maxHeartbeats 8000000 in
set_option maxRecDepth 100000 in
theorem slices_Max_int_int.calls (k : Nat) (A0 : Option Addr) (c0 : Nat) (l0 : List Int) (r : Int) (w : World) (hr0 : Kd.C (Kd.int .i64) w A0 l0.length l0) (hc0 : l0.length ≤ c0) (h : slices_Max_int_int.f k l0 = some r) :
  Calls Try.prog 44 #[.slice A0 l0.length c0] w fun e w'=>e = .returned (.int .i64 r)∧Below w.heap.size w w':=by
 have HR0:=A_ hr0
 have HC0:=A_ hc0
 clear hr0 hc0
 have HB:=A_ (Below.refl w.heap.size w)
 have H : (if (l0.length : Int) < 1 then (none) else (if 0 < (l0.length : Int) then (slices_Max_int_int.l0 k l0 (rd l0 0) 1) else (none))) = some r:=h
 clear h
 by_cases c2 : (l0.length : Int) < 1
 ·
  rw [if_pos c2] at H
  exact absurd H (by simp)
 ·
  rw [if_neg c2] at H
  have c2b0 : decide ((l0.length : Int) < 1) = false:=decide_eq_false c2
  have c2b1 : decide (l0.length < 1) = false:=decide_eq_false (by omega)
  clear c2
  by_cases c3 : 0 < (l0.length : Int)
  ·
   rw [if_pos c3] at H
   have c3b0 : decide (0 < (l0.length : Int)) = true:=decide_eq_true c3
   have c3b1 : decide (0 < l0.length) = true:=decide_eq_true (by omega)
   clear c3
   have H':=A_ H
   clear H
   have p165 : 0 ≤ (0 : Int):=(by omega)
   have q165 : 0 < (l0.length : Int):=of_decide_eq_true uq1
   obtain ⟨ad165,e165,hx165_0⟩:=Kd.at_int HR0.out 0 p165 q165
   cases e165
   have qi165 : (0 < l0.length) = True:=eq_true (by omega)
   (try rw [show ((0 : Int)).toNat = 0 from rfl] at hx165_0)
   (try rw [Addr.add_zero'] at hx165_0)
   replace p165:=eq_true p165
   replace q165:=eq_true q165
   go_enter Try.func44,Try.ntmps44
   go_wp2
   go_loopg [3,4] k (fun kq v3 v4 w'=>∃ (x3_1 : Int) (x4_1 : Int),v3 = .int .i64 x3_1∧v4 = .int .i64 x4_1∧Aside0 (slices_Max_int_int.l0 kq l0 x3_1 x4_1 = some r)∧Aside0 (kq ≤ k)∧Aside0 (Below w.heap.size w w'))
   case atStart=>exact ⟨(rd l0 0),(1),uq2,uq2,H',⟨Nat.le_refl _⟩,⟨uq0⟩⟩
   case round =>
    clear H'
    try clear p1
    try clear q1
    try clear hx1
    try clear qi1
    try clear c2
    try clear c2b0
    try clear c2b1
    try clear p2
    try clear c3
    try clear c3b0
    try clear c3b1
    try clear hx165_0
    try clear p165
    try clear q165
    obtain ⟨x3_1,x4_1,rfl,rfl,HA,HK1,HB⟩:=hrel
    cases gk with
    | zero=>exact absurd HA.out (by simp [slices_Max_int_int.l0])
    | succ k1 =>
     have H:=HA.out
     clear HA
     simp only [slices_Max_int_int.l0] at H
     by_cases c4 : x4_1 < (l0.length : Int)
     ·
      rw [if_pos c4] at H
      have c4b0 : decide (x4_1 < (l0.length : Int)) = true:=decide_eq_true c4
      clear c4
      by_cases c5 : 0 ≤ x4_1
      ·
       rw [if_pos c5] at H
       have c5b0 : decide (0 ≤ x4_1) = true:=decide_eq_true c5
       clear c5
       obtain ⟨ji6,hji6⟩ : ∃ j_ : Int,(mx x3_1 (rd l0 x4_1)) = j_:=⟨_,rfl⟩
       replace H : (slices_Max_int_int.l0 k1 l0 ji6 (wrap64 (x4_1 + 1))) = some r:=by first|(rw [hji6] at H;exact H)|(simp only [hji6] at H ⊢;exact H)
       have hji6_ : (if x3_1 < (rd l0 x4_1) then (rd l0 x4_1) else x3_1) = ji6:=hji6
       have H':=A_ H
       clear H
       have p166 : 0 ≤ (x4_1 : Int):=of_decide_eq_true uq1
       have q166 : x4_1 < (l0.length : Int):=of_decide_eq_true uq1
       obtain ⟨ad166,e166,hx166_0⟩:=Kd.at_int HR0.out x4_1 p166 q166
       obtain rfl : ad165 = ad166:=(by injection e166)
       replace hx166_0:=(HB.out.cell (World.block_lt_of_cell? w _ hx166_0)).trans hx166_0
       replace p166:=eq_true p166
       replace q166:=eq_true q166
       go_wp2
       go_roundg k1
       case measure=>have:=HK1.out;omega
       case rel=>exact ⟨(ji6),(wrap64 (x4_1 + 1)),(by first|rfl|(simp;done)|(simp only [← hji6] <;> (first|rfl|simp))|(simp [*];done)),uq2,H',⟨by have:=HK1.out;omega⟩,⟨uq0⟩⟩
      ·
       rw [if_neg c5] at H
       exact absurd H (by simp)
     ·
      rw [if_neg c4] at H
      have c4b0 : decide (x4_1 < (l0.length : Int)) = false:=decide_eq_false c4
      clear c4
      obtain rfl:=Option.some.inj H
      go_wp2
      go_ret
      exact ⟨by first|rfl|(simp [errW_none,errW_some] <;> rfl)|(simp [*,errW_none,errW_some] <;> rfl),uq0⟩
  ·
   rw [if_neg c3] at H
   exact absurd H (by simp)

/-! ### segment_proper: function 41 -/
def segment_proper.j0 : Nat → List Int → Bool → Option (Int)
 | 0,_,_=>none
 | k + 1,x0,x10=>if x10 = true then (some 8) else ((slices_Min_int_int.f k x0).bind fun t167=>(if t167 < (-1000) then (some 12) else ((slices_Max_int_int.f k x0).bind fun t168=>(if t168 > 1000 then (some 12) else (some 0)))))
def segment_proper.f (k : Nat) (l0 : List Int) : Option (Int):=if (l0.length : Int) < 1 then (segment_proper.j0 k l0 true) else (segment_proper.j0 k l0 (decide ((l0.length : Int) > 64)))
theorem segment_proper.mono_l : ∀ k,(∀ y0 y1,LeO (segment_proper.j0 k y0 y1) (segment_proper.j0 (k + 1) y0 y1))
 | 0=>fun _ _ r h=>by simp [segment_proper.j0] at h
 | k + 1=>by
  have ih0:=segment_proper.mono_l k
  ·
   intro y0 y1
   unfold segment_proper.j0
   repeat' first|(with_reducible first|apply ih0|apply slices_Max_int_int.mono|apply slices_Min_int_int.mono|exact lz|refine LeO.ite ?_ ?_|refine LeO.bind ?_ fun _=>?_)
theorem segment_proper.mono : ∀ a0 k,LeO (segment_proper.f k a0) (segment_proper.f (k + 1) a0):=by
 intro a0 k
 have ih0:=segment_proper.mono_l k
 unfold segment_proper.f
 repeat' first|(with_reducible first|apply ih0|apply slices_Max_int_int.mono|apply slices_Min_int_int.mono|exact lz|refine LeO.ite ?_ ?_|refine LeO.bind ?_ fun _=>?_)
set_option maxHeartbeats 8000000 in
set_option maxRecDepth 100000 in
theorem segment_proper.calls (k : Nat) (A0 : Option Addr) (c0 : Nat) (l0 : List Int) (r : Int) (w : World) (hr0 : Kd.C (Kd.int .i64) w A0 l0.length l0) (hc0 : l0.length ≤ c0) (h : segment_proper.f k l0 = some r) :
  Calls Try.prog 41 #[.slice A0 l0.length c0] w fun e w'=>e = .returned (.int .i64 r)∧Below w.heap.size w w':=by
 have HR0:=A_ hr0
 have HC0:=A_ hc0
 clear hr0 hc0
 have HB:=A_ (Below.refl w.heap.size w)
 have H : (if (l0.length : Int) < 1 then (segment_proper.j0 k l0 true) else (segment_proper.j0 k l0 (decide ((l0.length : Int) > 64)))) = some r:=h
 clear h
 have HC2:=A_ H
 clear H
 go_enter Try.func41,Try.ntmps41
 go_upto_region 1 with (fail)
 go_cut [10] (fun v10 wc=>∃ (kq : Nat) (x10_1 : Bool),v10 = .bool x10_1∧Aside0 (segment_proper.j0 kq l0 x10_1 = some r)∧Aside0 (kq ≤ k)∧Aside0 (Below w.heap.size w wc))
 case first =>
  have H:=HC2.out
  clear HC2
  by_cases c3 : (l0.length : Int) < 1
  ·
   rw [if_pos c3] at H
   have c3b0 : decide ((l0.length : Int) < 1) = true:=decide_eq_true c3
   have c3b1 : decide (l0.length < 1) = true:=decide_eq_true (by omega)
   clear c3
   (first|rw [c3b0]|(simp only [i64_w,i32_w];rw [c3b0])|skip)
   have H':=A_ H
   clear H
   go_wp2
   go_meet
   case rel=>exact ⟨_,(true),uq2,H',⟨by first|omega|exact Nat.le_refl _⟩,⟨uq0⟩⟩
  ·
   rw [if_neg c3] at H
   have c3b0 : decide ((l0.length : Int) < 1) = false:=decide_eq_false c3
   have c3b1 : decide (l0.length < 1) = false:=decide_eq_false (by omega)
   clear c3
   (first|rw [c3b0]|(simp only [i64_w,i32_w];rw [c3b0])|skip)
   have H':=A_ H
   clear H
   go_wp2
   go_meet
   case rel=>exact ⟨_,(decide ((l0.length : Int) > 64)),uq2,H',⟨by first|omega|exact Nat.le_refl _⟩,⟨uq0⟩⟩
 case rest =>
  clear HC2
  try clear p2
  try clear c3
  try clear c3b0
  try clear c3b1
  obtain ⟨kq,x10_1,rfl,HA,HJ1,HB⟩:=hcut
  cases kq with
  | zero=>exact absurd HA.out (by simp [segment_proper.j0])
  | succ kj1 =>
   have H:=HA.out
   clear HA
   simp only [segment_proper.j0] at H
   by_cases c4 : x10_1 = true
   ·
    subst c4
    have H1 : (some 8) = some r:=by rw [if_pos rfl] at H;exact H
    clear H
    have H:=H1
    clear H1
    obtain rfl:=Option.some.inj H
    go_wp2
    go_ret
    exact ⟨by first|rfl|(simp [errW_none,errW_some] <;> rfl)|(simp [*,errW_none,errW_some] <;> rfl),uq0⟩
   ·
    replace c4:=Bool.eq_false_iff.mpr c4
    subst c4
    have H1 : ((slices_Min_int_int.f kj1 l0).bind fun t167=>(if t167 < (-1000) then (some 12) else ((slices_Max_int_int.f kj1 l0).bind fun t168=>(if t168 > 1000 then (some 12) else (some 0))))) = some r:=by rw [if_neg (show ¬ (false = true) by decide)] at H;exact H
    clear H
    have H:=H1
    clear H1
    replace H:=Option.bind_eq_some_iff.mp H
    obtain ⟨t167,A50,H⟩:=H
    replace H : (if t167 < (-1000) then (some 12) else ((slices_Max_int_int.f kj1 l0).bind fun t168=>(if t168 > 1000 then (some 12) else (some 0)))) = some r:=H
    have A5:=A_ A50
    clear A50
    by_cases c6 : t167 < (-1000)
    ·
     rw [if_pos c6] at H
     have c6b0 : decide (t167 < (-1000)) = true:=decide_eq_true c6
     clear c6
     obtain rfl:=Option.some.inj H
     go_wp2_with (first|((with_reducible refine gate_callee (f:=43) rfl ?_);refine gl (some 12) Try.func43 #[.slice A0 l0.length c0] ?_;(with_reducible refine (slices_Min_int_int.calls kj1 _ _ l0 t167 _ ?side1 ?side2 A5.out).mono ?_);(case side1=>exact cx ((cl HR0.out HB.out)));(case side2=>exact HC0.out);rintro e w7 ⟨rfl,hb⟩;refine ⟨_,rfl,?_⟩;replace HB:=A_ (below_step uq0 hb);(try clear hb);(try clear hb2);(try clear hk);(try clear hi)))
     go_ret
     exact ⟨by first|rfl|(simp [errW_none,errW_some] <;> rfl)|(simp [*,errW_none,errW_some] <;> rfl),uq0⟩
    ·
     rw [if_neg c6] at H
     have c6b0 : decide (t167 < (-1000)) = false:=decide_eq_false c6
     clear c6
     replace H:=Option.bind_eq_some_iff.mp H
     obtain ⟨t168,A80,H⟩:=H
     replace H : (if t168 > 1000 then (some 12) else (some 0)) = some r:=H
     have A8:=A_ A80
     clear A80
     by_cases c9 : t168 > 1000
     ·
      rw [if_pos c9] at H
      have c9b0 : decide (1000 < t168) = true:=decide_eq_true c9
      clear c9
      obtain rfl:=Option.some.inj H
      go_wp2_with (first|((with_reducible refine gate_callee (f:=43) rfl ?_);refine gl (some 12) Try.func43 #[.slice A0 l0.length c0] ?_;(with_reducible refine (slices_Min_int_int.calls kj1 _ _ l0 t167 _ ?side1 ?side2 A5.out).mono ?_);(case side1=>exact cx ((cl HR0.out HB.out)));(case side2=>exact HC0.out);rintro e w10 ⟨rfl,hb⟩;refine ⟨_,rfl,?_⟩;replace HB:=A_ (below_step uq0 hb);(try clear hb);(try clear hb2);(try clear hk);(try clear hi))|(go_at_call 44;(with_reducible refine (slices_Max_int_int.calls kj1 _ _ l0 t168 _ ?side1 ?side2 A8.out).mono ?_);(case side1=>exact cx ((cl HR0.out HB.out)));(case side2=>exact HC0.out);rintro e w11 ⟨rfl,hb⟩;replace HB:=A_ (below_step uq0 hb);(try clear hb);(try clear hb2);(try clear hk);(try clear hi)))
      go_ret
      exact ⟨by first|rfl|(simp [errW_none,errW_some] <;> rfl)|(simp [*,errW_none,errW_some] <;> rfl),uq0⟩
     ·
      rw [if_neg c9] at H
      have c9b0 : decide (1000 < t168) = false:=decide_eq_false c9
      clear c9
      obtain rfl:=Option.some.inj H
      go_wp2_with (first|((with_reducible refine gate_callee (f:=43) rfl ?_);refine gl (some 12) Try.func43 #[.slice A0 l0.length c0] ?_;(with_reducible refine (slices_Min_int_int.calls kj1 _ _ l0 t167 _ ?side1 ?side2 A5.out).mono ?_);(case side1=>exact cx ((cl HR0.out HB.out)));(case side2=>exact HC0.out);rintro e w12 ⟨rfl,hb⟩;refine ⟨_,rfl,?_⟩;replace HB:=A_ (below_step uq0 hb);(try clear hb);(try clear hb2);(try clear hk);(try clear hi))|(go_at_call 44;(with_reducible refine (slices_Max_int_int.calls kj1 _ _ l0 t168 _ ?side1 ?side2 A8.out).mono ?_);(case side1=>exact cx ((cl HR0.out HB.out)));(case side2=>exact HC0.out);rintro e w13 ⟨rfl,hb⟩;replace HB:=A_ (below_step uq0 hb);(try clear hb);(try clear hb2);(try clear hk);(try clear hi)))
      go_ret
      exact ⟨by first|rfl|(simp [errW_none,errW_some] <;> rfl)|(simp [*,errW_none,errW_some] <;> rfl),uq0⟩

-- NOT PRINTED: function 42 (segment_forms)

/-! ### segment_total: function 45 -/
def segment_total.l0 : Nat → Int → List Int → Int → Int → Option (Int)
 | 0,_,_,_,_=>none
 | k + 1,x3,x6,x7,x8=>if x8 < x7 then (if 0 ≤ x8 then (if x8 < (x6.length : Int) then (segment_total.l0 k (wrap64 (x3 + (rd x6 x8))) x6 x7 (wrap64 (x8 + 1))) else (none)) else (none)) else (some x3)
def segment_total.f (k : Nat) (l0 : List Int) : Option (Int):=segment_total.l0 k 0 l0 (l0.length : Int) 0
theorem segment_total.mono_l : ∀ k,(∀ y0 y1 y2 y3,LeO (segment_total.l0 k y0 y1 y2 y3) (segment_total.l0 (k + 1) y0 y1 y2 y3))
 | 0=>fun _ _ _ _ r h=>by simp [segment_total.l0] at h
 | k + 1=>by
  have ih0:=segment_total.mono_l k
  ·
   intro y0 y1 y2 y3
   unfold segment_total.l0
   repeat' first|(with_reducible first|apply ih0|exact lz|refine LeO.ite ?_ ?_|refine LeO.bind ?_ fun _=>?_)
theorem segment_total.mono : ∀ a0 k,LeO (segment_total.f k a0) (segment_total.f (k + 1) a0):=by
 intro a0 k
 have ih0:=segment_total.mono_l k
 unfold segment_total.f
 repeat' first|(with_reducible first|apply ih0|exact lz|refine LeO.ite ?_ ?_|refine LeO.bind ?_ fun _=>?_)
set_option maxHeartbeats 8000000 in
set_option maxRecDepth 100000 in
theorem segment_total.calls (k : Nat) (A0 : Option Addr) (c0 : Nat) (l0 : List Int) (r : Int) (w : World) (hr0 : Kd.C (Kd.int .i64) w A0 l0.length l0) (hc0 : l0.length ≤ c0) (h : segment_total.f k l0 = some r) :
  Calls Try.prog 45 #[.slice A0 l0.length c0] w fun e w'=>e = .returned (.int .i64 r)∧Drawn0 w w':=by
 have HR0:=A_ hr0
 have HC0:=A_ hc0
 clear hr0 hc0
 have H : (segment_total.l0 k 0 l0 (l0.length : Int) 0) = some r:=h
 clear h
 have H':=A_ H
 clear H
 go_enter Try.func45,Try.ntmps45
 go_wp2
 go_loopg [3,8] k (fun kq v3 v8 w'=>∃ (x3_1 : Int) (x8_1 : Int),v3 = .int .i64 x3_1∧v8 = .int .i64 x8_1∧Aside0 (segment_total.l0 kq x3_1 l0 (l0.length : Int) x8_1 = some r)∧Aside0 (kq ≤ k)∧Drawn0 w w')
 case atStart=>exact ⟨(0),(0),uq2,uq2,H',⟨Nat.le_refl _⟩,uq7⟩
 case round =>
  clear H'
  obtain ⟨x3_1,x8_1,rfl,rfl,HA,HK1,⟨m1,rfl⟩⟩:=hrel
  cases gk with
  | zero=>exact absurd HA.out (by simp [segment_total.l0])
  | succ k1 =>
   have H:=HA.out
   clear HA
   simp only [segment_total.l0] at H
   by_cases c2 : x8_1 < (l0.length : Int)
   ·
    rw [if_pos c2] at H
    have c2b0 : decide (x8_1 < (l0.length : Int)) = true:=decide_eq_true c2
    clear c2
    by_cases c3 : 0 ≤ x8_1
    ·
     rw [if_pos c3] at H
     have c3b0 : decide (0 ≤ x8_1) = true:=decide_eq_true c3
     clear c3
     by_cases c4 : x8_1 < (l0.length : Int)
     ·
      rw [if_pos c4] at H
      have c4b0 : decide (x8_1 < (l0.length : Int)) = true:=decide_eq_true c4
      clear c4
      have H':=A_ H
      clear H
      have p169 : 0 ≤ (x8_1 : Int):=of_decide_eq_true uq1
      have q169 : x8_1 < (l0.length : Int):=of_decide_eq_true uq1
      obtain ⟨ad169,e169,hx169_0⟩:=Kd.at_int HR0.out x8_1 p169 q169
      cases e169
      replace p169:=eq_true p169
      replace q169:=eq_true q169
      go_wp2
      go_roundg k1
      case measure=>have:=HK1.out;omega
      case rel=>exact ⟨(wrap64 (x3_1 + (rd l0 x8_1))),(wrap64 (x8_1 + 1)),uq2,uq2,H',⟨by have:=HK1.out;omega⟩,uq7⟩
     ·
      rw [if_neg c4] at H
      exact absurd H (by simp)
    ·
     rw [if_neg c3] at H
     exact absurd H (by simp)
   ·
    rw [if_neg c2] at H
    have c2b0 : decide (x8_1 < (l0.length : Int)) = false:=decide_eq_false c2
    clear c2
    obtain rfl:=Option.some.inj H
    go_wp2
    go_ret
    exact ⟨by first|rfl|(simp;done)|(simp [*];done),uq7⟩

/-! ### codec_PutInt: function 46 -/
def codec_PutInt.l0 : Nat → Int → List Int → Option (List Int)
 | 0,_,_=>none
 | k + 1,x5,x6=>if x5 ≥ 128 then (if x6.length < 140737488355328 then (codec_PutInt.l0 k (x5 / 128) (x6 ++ [Go.bits .or .u8 ((x5) % 256) 128])) else (none)) else (if x6.length < 140737488355328 then (some (x6 ++ [(x5) % 256])) else (none))
def codec_PutInt.f (k : Nat) (l0 : List Int) (a1 : Int) : Option (List Int):=if ([] : List Int).length + l0.length < 140737488355328 then (codec_PutInt.l0 k (Go.bits .xor .u64 (IntKind.u64.wrap ((IntKind.u64.wrap (a1)) * 2)) (IntKind.u64.wrap (a1 / 9223372036854775808))) (([] : List Int) ++ l0)) else (none)
theorem codec_PutInt.mono_l : ∀ k,(∀ y0 y1,LeO (codec_PutInt.l0 k y0 y1) (codec_PutInt.l0 (k + 1) y0 y1))
 | 0=>fun _ _ r h=>by simp [codec_PutInt.l0] at h
 | k + 1=>by
  have ih0:=codec_PutInt.mono_l k
  ·
   intro y0 y1
   unfold codec_PutInt.l0
   repeat' first|(with_reducible first|apply ih0|exact lz|refine LeO.ite ?_ ?_|refine LeO.bind ?_ fun _=>?_)
theorem codec_PutInt.mono : ∀ a0 a1 k,LeO (codec_PutInt.f k a0 a1) (codec_PutInt.f (k + 1) a0 a1):=by
 intro a0 a1 k
 have ih0:=codec_PutInt.mono_l k
 unfold codec_PutInt.f
 repeat' first|(with_reducible first|apply ih0|exact lz|refine LeO.ite ?_ ?_|refine LeO.bind ?_ fun _=>?_)
set_option maxHeartbeats 8000000 in
set_option maxRecDepth 100000 in
theorem codec_PutInt.calls (k : Nat) (A0 : Option Addr) (c0 : Nat) (l0 : List Int) (a1 : Int) (r : List Int) (w : World) (hr0 : Kd.C (Kd.int .u8) w A0 l0.length l0) (hc0 : l0.length ≤ c0) (h : codec_PutInt.f k l0 a1 = some r) :
  Calls Try.prog 46 #[.slice A0 l0.length c0,.int .i64 a1] w fun e w'=>∃ v0_ : Value,e = .returned (v0_)∧Kd.R (Kd.int .u8) 5 w' w.heap.size (fun _=>True) v0_ r∧Below w.heap.size w w':=by
 have HR0:=A_ hr0
 have HC0:=A_ hc0
 clear hr0 hc0
 have HB:=A_ (Below.refl w.heap.size w)
 have H : (if ([] : List Int).length + l0.length < 140737488355328 then (codec_PutInt.l0 k (Go.bits .xor .u64 (IntKind.u64.wrap ((IntKind.u64.wrap (a1)) * 2)) (IntKind.u64.wrap (a1 / 9223372036854775808))) (([] : List Int) ++ l0)) else (none)) = some r:=h
 clear h
 by_cases c3 : ([] : List Int).length + l0.length < 140737488355328
 ·
  rw [if_pos c3] at H
  have LMc3:=A_ c3
  clear c3
  obtain ⟨y170,hy170⟩ : ∃ y_ : List Int,y_ = (([] : List Int) ++ l0):=⟨_,rfl⟩
  replace H : (codec_PutInt.l0 k (Go.bits .xor .u64 (IntKind.u64.wrap ((IntKind.u64.wrap (a1)) * 2)) (IntKind.u64.wrap (a1 / 9223372036854775808))) y170) = some r:=by first|(rw [hy170];with_reducible exact H)|(have H2_:=(Option.bind_some _ _).symm.trans H;rw [hy170];with_reducible exact H2_)|(have H2_:=(Option.bind_some _ _).symm.trans H;with_reducible exact H2_)|with_reducible exact H|(rw [hy170];exact H)|exact H
  have Ny170:=A_ hy170
  clear hy170
  have H':=A_ H
  clear H
  go_enter Try.func46,Try.ntmps46
  go_wp2_with (first|((with_reducible refine gate_builtin (b:=.append) (xs:=#[.const (.slice none 0 0),.tmp 14]) rfl ?_);at_builtin;refine Kd.R_append_rows (Kd.int .u8) (w0:=w) w.heap.size rfl (.const (.slice none 0 0)) (.tmp 14) 29 5 (.int .u8 0) 1 rfl Try.underlying29 info5 rfl (by decide) (by omega) (.slice none 0 0) ([] : List Int) l0 _ _ _ (fun _=>True) (fun _=>False) rfl rfl ?aO ?aR (fun _ _ h=>h) (fun _ h=>h.elim) ?aF ?aB ?aS ?aL ?_;(case aR=>exact cx HR0.out);(case aB=>exact uq0);(case aF=>exact (fun _ _=>trivial));(case aO=>exact ((Kd.R_nil _ _ _ _ (fun _=>True))));(case aS=>exact (below_size uq0));(case aL=>have:=LMc3.out;omega);intro v171 w4 ho hb hg hat;rw [← Ny170.out] at ho;replace HB:=A_ (hb);have HO172:=A_ (ho);clear ho hb hg hat))
  go_loopg [5,6] k (fun kq v5 v6 w'=>∃ (x5_1 : Int) (x6_1 : List Int),v5 = .int .u64 x5_1∧Aside0 (codec_PutInt.l0 kq x5_1 x6_1 = some r)∧Aside0 (kq ≤ k)∧Aside0 (Kd.R (Kd.int .u8) 5 w' w.heap.size (fun _=>True) v6 x6_1)∧Aside0 (Below w.heap.size w w'))
  case atStart=>exact ⟨(Go.bits .xor .u64 (IntKind.u64.wrap ((IntKind.u64.wrap (a1)) * 2)) (IntKind.u64.wrap (a1 / 9223372036854775808))),(y170),uq2,H',⟨Nat.le_refl _⟩,⟨rx HO172.out⟩,⟨uq0⟩⟩
  case round =>
   clear H'
   try clear p2
   try clear c3
   try clear c4
   obtain ⟨x5_1,x6_1,rfl,HA,HK1,HO_6,HB⟩:=hrel
   cases gk with
   | zero=>exact absurd HA.out (by simp [codec_PutInt.l0])
   | succ k1 =>
    have H:=HA.out
    clear HA
    simp only [codec_PutInt.l0] at H
    by_cases c5 : x5_1 ≥ 128
    ·
     rw [if_pos c5] at H
     have c5b0 : decide (128 ≤ x5_1) = true:=decide_eq_true c5
     clear c5
     by_cases c6 : x6_1.length < 140737488355328
     ·
      rw [if_pos c6] at H
      have LMc6:=A_ c6
      clear c6
      obtain ⟨y173,hy173⟩ : ∃ y_ : List Int,y_ = (x6_1 ++ [Go.bits .or .u8 ((x5_1) % 256) 128]):=⟨_,rfl⟩
      replace H : (codec_PutInt.l0 k1 (x5_1 / 128) y173) = some r:=by first|(rw [hy173];with_reducible exact H)|(have H2_:=(Option.bind_some _ _).symm.trans H;rw [hy173];with_reducible exact H2_)|(have H2_:=(Option.bind_some _ _).symm.trans H;with_reducible exact H2_)|with_reducible exact H|(rw [hy173];exact H)|exact H
      have Ny173:=A_ hy173
      clear hy173
      have H':=A_ H
      clear H
      go_wp2_with (first|((with_reducible refine gate_builtin (b:=.append) (xs:=#[.tmp 18,.tmp 22]) rfl ?_);at_builtin;refine Kd.R_append (Kd.int .u8) (w0:=w) w.heap.size rfl (.tmp 18) (.tmp 22) 29 5 (.int .u8 0) 1 rfl Try.underlying29 info5 rfl (by decide) (by omega) u6 x6_1 (Go.bits .or .u8 ((x5_1) % 256) 128) [.int .u8 (Go.bits .or .u8 ((x5_1) % 256) 128)] (fun _=>True) (fun _=>False) rfl rfl ?aP (fun _ hk=>hk.elim) ?aF ?aO ?aB ?aS ?aL ?_;(case aP=>exact rfl);(case aB=>exact uq0);(case aF=>exact (fun _ _=>trivial));(case aO=>exact (rx HO_6.out));(case aS=>exact (below_size uq0));(case aL=>have:=LMc6.out;omega);intro v174 w7 ho hb hg hat;rw [← Ny173.out] at ho;replace HB:=A_ (hb);have HO175:=A_ (ho);clear HO_6;clear ho hb hg hat))
      go_roundg k1
      case measure=>have:=HK1.out;omega
      case rel=>exact ⟨(x5_1 / 128),(y173),uq2,H',⟨by have:=HK1.out;omega⟩,⟨rx HO175.out⟩,⟨uq0⟩⟩
     ·
      rw [if_neg c6] at H
      exact absurd H (by simp)
    ·
     rw [if_neg c5] at H
     have c5b0 : decide (128 ≤ x5_1) = false:=decide_eq_false c5
     clear c5
     by_cases c8 : x6_1.length < 140737488355328
     ·
      rw [if_pos c8] at H
      have LMc8:=A_ c8
      clear c8
      obtain ⟨y176,hy176⟩ : ∃ y_ : List Int,y_ = (x6_1 ++ [(x5_1) % 256]):=⟨_,rfl⟩
      replace H : (some y176) = some r:=by first|(rw [hy176];with_reducible exact H)|(have H2_:=(Option.bind_some _ _).symm.trans H;rw [hy176];with_reducible exact H2_)|(have H2_:=(Option.bind_some _ _).symm.trans H;with_reducible exact H2_)|with_reducible exact H|(rw [hy176];exact H)|exact H
      have Ny176:=A_ hy176
      clear hy176
      obtain rfl:=Option.some.inj H
      go_wp2_with (first|((with_reducible refine gate_builtin (b:=.append) (xs:=#[.tmp 26,.tmp 29]) rfl ?_);at_builtin;refine Kd.R_append (Kd.int .u8) (w0:=w) w.heap.size rfl (.tmp 26) (.tmp 29) 29 5 (.int .u8 0) 1 rfl Try.underlying29 info5 rfl (by decide) (by omega) u6 x6_1 ((x5_1) % 256) [.int .u8 ((x5_1) % 256)] (fun _=>True) (fun _=>False) rfl rfl ?aP (fun _ hk=>hk.elim) ?aF ?aO ?aB ?aS ?aL ?_;(case aP=>exact rfl);(case aB=>exact uq0);(case aF=>exact (fun _ _=>trivial));(case aO=>exact (rx HO_6.out));(case aS=>exact (below_size uq0));(case aL=>have:=LMc8.out;omega);intro v177 w9 ho hb hg hat;rw [← Ny176.out] at ho;replace HB:=A_ (hb);have HO178:=A_ (ho);clear HO_6;clear ho hb hg hat))
      go_ret
      exact ⟨_,by first|rfl|(simp [errW_none,errW_some] <;> rfl)|(simp [*,errW_none,errW_some] <;> rfl),rx HO178.out,uq0⟩
     ·
      rw [if_neg c8] at H
      exact absurd H (by simp)
 ·
  rw [if_neg c3] at H
  exact absurd H (by simp)

-- NOT PRINTED: function 62 (codec_table)

/-! ### codec_Sum: function 47 -/
def codec_Sum.f (l0 : List Int) : Option (Int):=some (X.crc l0)
theorem codec_Sum.calls (A0 : Option Addr) (c0 : Nat) (l0 : List Int) (r : Int) (w : World) (hr0 : Kd.C (Kd.int .u8) w A0 l0.length l0) (hc0 : l0.length ≤ c0) (h : codec_Sum.f l0 = some r) :
  Calls Try.prog 47 #[.slice A0 l0.length c0] w fun e w'=>e = .returned (.int .u32 r)∧Below w.heap.size w w':=by
 obtain rfl:=Option.some.inj h
 exact X.sum_calls A0 c0 l0 w hr0 hc0

/-! ### segment_constant_encode: function 93 -/
def segment_constant_encode.f (k : Nat)  (l1 : List Int) : Option (List Int × Bool):=(slices_Min_int_int.f k l1).bind fun t180=>((slices_Max_int_int.f k l1).bind fun t181=>(some (([] : List Int),(t180 == t181))))
theorem segment_constant_encode.mono : ∀ a0 k,LeO (segment_constant_encode.f k a0) (segment_constant_encode.f (k + 1) a0):=by
 intro a0 k
 unfold segment_constant_encode.f
 repeat' first|(with_reducible first|apply slices_Max_int_int.mono|apply slices_Min_int_int.mono|exact lz|refine LeO.ite ?_ ?_|refine LeO.bind ?_ fun _=>?_)
set_option maxHeartbeats 8000000 in
set_option maxRecDepth 100000 in
theorem segment_constant_encode.calls (k : Nat)  (A1 : Option Addr) (c1 : Nat) (l1 : List Int) (r1 : List Int) (r2 : Bool) (w : World) (hr1 : Kd.C (Kd.int .i64) w A1 l1.length l1) (hc1 : l1.length ≤ c1) (h : segment_constant_encode.f k l1 = some (r1,r2)) :
  Calls Try.prog 93 #[.agg #[],.slice A1 l1.length c1] w fun e w'=>∃ v0_ : Value,e = .returned (.tuple #[v0_,.bool r2])∧Kd.R (Kd.int .u8) 5 w' w.heap.size (fun _=>True) v0_ r1∧Below w.heap.size w w':=by
 have hu100:=Try.underlying100
 have HR1:=A_ hr1
 have HC1:=A_ hc1
 clear hr1 hc1
 have HB:=A_ (Below.refl w.heap.size w)
 have H : ((slices_Min_int_int.f k l1).bind fun t180=>((slices_Max_int_int.f k l1).bind fun t181=>(some (([] : List Int),(t180 == t181))))) = some (r1,r2):=h
 clear h
 replace H:=Option.bind_eq_some_iff.mp H
 obtain ⟨t180,A30,H⟩:=H
 replace H : ((slices_Max_int_int.f k l1).bind fun t181=>(some (([] : List Int),(t180 == t181)))) = some (r1,r2):=H
 have A3:=A_ A30
 clear A30
 replace H:=Option.bind_eq_some_iff.mp H
 obtain ⟨t181,A40,H⟩:=H
 replace H : (some (([] : List Int),(t180 == t181))) = some (r1,r2):=H
 have A4:=A_ A40
 clear A40
 simp only [Option.some.injEq,Prod.mk.injEq] at H
 obtain ⟨rfl,rfl⟩:=H
 go_enter Try.func93,Try.ntmps93
 go_wp2_with (first|((with_reducible refine gate_dst (N:=2) rfl ?_);refine box_event ?hg (N:=2) ?hd (cs:=#[]) (t:=100) ?hr ?_;(case hd=>rfl);(case hg=>rfl);(case hr=>first|(go_simp;done)|(go_simp;rfl));intro gb179 hg w5 hbox hb;have n0_:=A_ (below_step uq0 hb);have n1_:=A_ (hbox);have n2_:=A_ ((uq8 : w.heap.size ≤ gb179));have n3_:=A_ ((uq8 : w.heap.size ≤ gb179));clear HB;have HB:=n0_;have BK179:=n1_;have GW179:=n2_;have GE179:=n3_;clear n0_ n1_ n2_ n3_;clear hb hbox hg)|((with_reducible refine gate_callee (f:=43) rfl ?_);refine gl (some 7) Try.func43 #[.slice A1 l1.length c1] ?_;(with_reducible refine (slices_Min_int_int.calls k _ _ l1 t180 _ ?side1 ?side2 A3.out).mono ?_);(case side1=>exact cx ((cl HR1.out HB.out)));(case side2=>exact HC1.out);rintro e w6 ⟨rfl,hb⟩;refine ⟨_,rfl,?_⟩;replace BK179:=A_ (blk_below (g:=gb179) (o:=.cells #[] 100 (0,0)) (by (with_reducible repeat (first|refine blk_drewN ?_ _|refine blk_drew ?_|refine blk_alloc ?_ _));exact BK179.out) hb);replace HB:=A_ (below_step uq37 hb);(try clear hb);(try clear hb2);(try clear hk);(try clear hi))|((with_reducible refine gate_callee (f:=44) rfl ?_);refine gl (some 9) Try.func44 #[.slice A1 l1.length c1] ?_;(with_reducible refine (slices_Max_int_int.calls k _ _ l1 t181 _ ?side1 ?side2 A4.out).mono ?_);(case side1=>exact cx ((cl HR1.out HB.out)));(case side2=>exact HC1.out);rintro e w7 ⟨rfl,hb⟩;refine ⟨_,rfl,?_⟩;replace BK179:=A_ (blk_below (g:=gb179) (o:=.cells #[] 100 (0,0)) (by (with_reducible repeat (first|refine blk_drewN ?_ _|refine blk_drew ?_|refine blk_alloc ?_ _));exact BK179.out) hb);replace HB:=A_ (below_step uq37 hb);(try clear hb);(try clear hb2);(try clear hk);(try clear hi)))
 go_ret2
 exact ⟨_,by first|rfl|(simp [errW_none,errW_some] <;> rfl)|(simp [*,errW_none,errW_some] <;> rfl),by first|exact Kd.R_nil _ _ _ _ _|exact Kd.N_nil _ _ _ _ _|exact Kd.V_nil _ _ _ _ _|exact Kd.Q_nil _ _ _ _ _|exact Kd.S_nil _ _ _ _ _,uq37⟩

/-! ### segment_constant_kind: function 94 -/
def segment_constant_kind.f  : Option (Int):=some 0
set_option maxHeartbeats 8000000 in
set_option maxRecDepth 100000 in
theorem segment_constant_kind.calls  (r : Int) (w : World) (h : segment_constant_kind.f  = some r) :
  Calls Try.prog 94 #[.agg #[]] w fun e w'=>e = .returned (.int .i64 r)∧Below w.heap.size w w':=by
 have hu100:=Try.underlying100
 have HB:=A_ (Below.refl w.heap.size w)
 have H : (some 0) = some r:=h
 clear h
 obtain rfl:=Option.some.inj H
 go_enter Try.func94,Try.ntmps94
 go_wp2_with (first|((with_reducible refine gate_dst (N:=1) rfl ?_);refine box_event ?hg (N:=1) ?hd (cs:=#[]) (t:=100) ?hr ?_;(case hd=>rfl);(case hg=>rfl);(case hr=>first|(go_simp;done)|(go_simp;rfl));intro gb182 hg w2 hbox hb;have n0_:=A_ (below_step uq0 hb);have n1_:=A_ (hbox);have n2_:=A_ ((uq8 : w.heap.size ≤ gb182));have n3_:=A_ ((uq8 : w.heap.size ≤ gb182));clear HB;have HB:=n0_;have BK182:=n1_;have GW182:=n2_;have GE182:=n3_;clear n0_ n1_ n2_ n3_;clear hb hbox hg))
 go_ret
 exact ⟨by first|rfl|(simp [errW_none,errW_some] <;> rfl)|(simp [*,errW_none,errW_some] <;> rfl),by repeat (first|(with_reducible first|exact HB.out|apply ba|apply bb|apply bc|refine below_set ?_ GE182.out)|exact HB.out)⟩

/-! ### bits_Len32: function 105 -/
def bits_Len32.f (a0 : Int) : Option (Int):=if a0 ≥ 65536 then (if (a0 / 65536) ≥ 256 then (if 0 ≤ (((a0 / 65536) / 256) % 256) then (if (((a0 / 65536) / 256) % 256) < 256 then (some (wrap64 ((16 + 8) + (wrap64 (bt (⟨#[0,1,2,2,3,3,3,3,4,4,4,4,4,4,4,4,5,5,5,5,5,5,5,5,5,5,5,5,5,5,5,5,6,6,6,6,6,6,6,6,6,6,6,6,6,6,6,6,6,6,6,6,6,6,6,6,6,6,6,6,6,6,6,6,7,7,7,7,7,7,7,7,7,7,7,7,7,7,7,7,7,7,7,7,7,7,7,7,7,7,7,7,7,7,7,7,7,7,7,7,7,7,7,7,7,7,7,7,7,7,7,7,7,7,7,7,7,7,7,7,7,7,7,7,7,7,7,7,8,8,8,8,8,8,8,8,8,8,8,8,8,8,8,8,8,8,8,8,8,8,8,8,8,8,8,8,8,8,8,8,8,8,8,8,8,8,8,8,8,8,8,8,8,8,8,8,8,8,8,8,8,8,8,8,8,8,8,8,8,8,8,8,8,8,8,8,8,8,8,8,8,8,8,8,8,8,8,8,8,8,8,8,8,8,8,8,8,8,8,8,8,8,8,8,8,8,8,8,8,8,8,8,8,8,8,8,8,8,8,8,8,8,8,8,8,8,8,8,8,8,8,8,8,8,8,8]⟩ : ByteArray) (((a0 / 65536) / 256) % 256)))))) else (none)) else (none)) else (if 0 ≤ ((a0 / 65536) % 256) then (if ((a0 / 65536) % 256) < 256 then (some (wrap64 (16 + (wrap64 (bt (⟨#[0,1,2,2,3,3,3,3,4,4,4,4,4,4,4,4,5,5,5,5,5,5,5,5,5,5,5,5,5,5,5,5,6,6,6,6,6,6,6,6,6,6,6,6,6,6,6,6,6,6,6,6,6,6,6,6,6,6,6,6,6,6,6,6,7,7,7,7,7,7,7,7,7,7,7,7,7,7,7,7,7,7,7,7,7,7,7,7,7,7,7,7,7,7,7,7,7,7,7,7,7,7,7,7,7,7,7,7,7,7,7,7,7,7,7,7,7,7,7,7,7,7,7,7,7,7,7,7,8,8,8,8,8,8,8,8,8,8,8,8,8,8,8,8,8,8,8,8,8,8,8,8,8,8,8,8,8,8,8,8,8,8,8,8,8,8,8,8,8,8,8,8,8,8,8,8,8,8,8,8,8,8,8,8,8,8,8,8,8,8,8,8,8,8,8,8,8,8,8,8,8,8,8,8,8,8,8,8,8,8,8,8,8,8,8,8,8,8,8,8,8,8,8,8,8,8,8,8,8,8,8,8,8,8,8,8,8,8,8,8,8,8,8,8,8,8,8,8,8,8,8,8,8,8,8,8]⟩ : ByteArray) ((a0 / 65536) % 256)))))) else (none)) else (none))) else (if a0 ≥ 256 then (if 0 ≤ ((a0 / 256) % 256) then (if ((a0 / 256) % 256) < 256 then (some (wrap64 ((0 + 8) + (wrap64 (bt (⟨#[0,1,2,2,3,3,3,3,4,4,4,4,4,4,4,4,5,5,5,5,5,5,5,5,5,5,5,5,5,5,5,5,6,6,6,6,6,6,6,6,6,6,6,6,6,6,6,6,6,6,6,6,6,6,6,6,6,6,6,6,6,6,6,6,7,7,7,7,7,7,7,7,7,7,7,7,7,7,7,7,7,7,7,7,7,7,7,7,7,7,7,7,7,7,7,7,7,7,7,7,7,7,7,7,7,7,7,7,7,7,7,7,7,7,7,7,7,7,7,7,7,7,7,7,7,7,7,7,8,8,8,8,8,8,8,8,8,8,8,8,8,8,8,8,8,8,8,8,8,8,8,8,8,8,8,8,8,8,8,8,8,8,8,8,8,8,8,8,8,8,8,8,8,8,8,8,8,8,8,8,8,8,8,8,8,8,8,8,8,8,8,8,8,8,8,8,8,8,8,8,8,8,8,8,8,8,8,8,8,8,8,8,8,8,8,8,8,8,8,8,8,8,8,8,8,8,8,8,8,8,8,8,8,8,8,8,8,8,8,8,8,8,8,8,8,8,8,8,8,8,8,8,8,8,8,8]⟩ : ByteArray) ((a0 / 256) % 256)))))) else (none)) else (none)) else (if 0 ≤ ((a0) % 256) then (if ((a0) % 256) < 256 then (some (wrap64 (0 + (wrap64 (bt (⟨#[0,1,2,2,3,3,3,3,4,4,4,4,4,4,4,4,5,5,5,5,5,5,5,5,5,5,5,5,5,5,5,5,6,6,6,6,6,6,6,6,6,6,6,6,6,6,6,6,6,6,6,6,6,6,6,6,6,6,6,6,6,6,6,6,7,7,7,7,7,7,7,7,7,7,7,7,7,7,7,7,7,7,7,7,7,7,7,7,7,7,7,7,7,7,7,7,7,7,7,7,7,7,7,7,7,7,7,7,7,7,7,7,7,7,7,7,7,7,7,7,7,7,7,7,7,7,7,7,8,8,8,8,8,8,8,8,8,8,8,8,8,8,8,8,8,8,8,8,8,8,8,8,8,8,8,8,8,8,8,8,8,8,8,8,8,8,8,8,8,8,8,8,8,8,8,8,8,8,8,8,8,8,8,8,8,8,8,8,8,8,8,8,8,8,8,8,8,8,8,8,8,8,8,8,8,8,8,8,8,8,8,8,8,8,8,8,8,8,8,8,8,8,8,8,8,8,8,8,8,8,8,8,8,8,8,8,8,8,8,8,8,8,8,8,8,8,8,8,8,8,8,8,8,8,8,8]⟩ : ByteArray) ((a0) % 256)))))) else (none)) else (none)))
set_option maxHeartbeats 8000000 in
set_option maxRecDepth 100000 in
theorem bits_Len32.calls (a0 : Int) (r : Int) (w : World) (h : bits_Len32.f a0 = some r) :
  Calls Try.prog 105 #[.int .u32 a0] w fun e w'=>e = .returned (.int .i64 r)∧Drawn0 w w':=by
 have H : (if a0 ≥ 65536 then (if (a0 / 65536) ≥ 256 then (if 0 ≤ (((a0 / 65536) / 256) % 256) then (if (((a0 / 65536) / 256) % 256) < 256 then (some (wrap64 ((16 + 8) + (wrap64 (bt (⟨#[0,1,2,2,3,3,3,3,4,4,4,4,4,4,4,4,5,5,5,5,5,5,5,5,5,5,5,5,5,5,5,5,6,6,6,6,6,6,6,6,6,6,6,6,6,6,6,6,6,6,6,6,6,6,6,6,6,6,6,6,6,6,6,6,7,7,7,7,7,7,7,7,7,7,7,7,7,7,7,7,7,7,7,7,7,7,7,7,7,7,7,7,7,7,7,7,7,7,7,7,7,7,7,7,7,7,7,7,7,7,7,7,7,7,7,7,7,7,7,7,7,7,7,7,7,7,7,7,8,8,8,8,8,8,8,8,8,8,8,8,8,8,8,8,8,8,8,8,8,8,8,8,8,8,8,8,8,8,8,8,8,8,8,8,8,8,8,8,8,8,8,8,8,8,8,8,8,8,8,8,8,8,8,8,8,8,8,8,8,8,8,8,8,8,8,8,8,8,8,8,8,8,8,8,8,8,8,8,8,8,8,8,8,8,8,8,8,8,8,8,8,8,8,8,8,8,8,8,8,8,8,8,8,8,8,8,8,8,8,8,8,8,8,8,8,8,8,8,8,8,8,8,8,8,8,8]⟩ : ByteArray) (((a0 / 65536) / 256) % 256)))))) else (none)) else (none)) else (if 0 ≤ ((a0 / 65536) % 256) then (if ((a0 / 65536) % 256) < 256 then (some (wrap64 (16 + (wrap64 (bt (⟨#[0,1,2,2,3,3,3,3,4,4,4,4,4,4,4,4,5,5,5,5,5,5,5,5,5,5,5,5,5,5,5,5,6,6,6,6,6,6,6,6,6,6,6,6,6,6,6,6,6,6,6,6,6,6,6,6,6,6,6,6,6,6,6,6,7,7,7,7,7,7,7,7,7,7,7,7,7,7,7,7,7,7,7,7,7,7,7,7,7,7,7,7,7,7,7,7,7,7,7,7,7,7,7,7,7,7,7,7,7,7,7,7,7,7,7,7,7,7,7,7,7,7,7,7,7,7,7,7,8,8,8,8,8,8,8,8,8,8,8,8,8,8,8,8,8,8,8,8,8,8,8,8,8,8,8,8,8,8,8,8,8,8,8,8,8,8,8,8,8,8,8,8,8,8,8,8,8,8,8,8,8,8,8,8,8,8,8,8,8,8,8,8,8,8,8,8,8,8,8,8,8,8,8,8,8,8,8,8,8,8,8,8,8,8,8,8,8,8,8,8,8,8,8,8,8,8,8,8,8,8,8,8,8,8,8,8,8,8,8,8,8,8,8,8,8,8,8,8,8,8,8,8,8,8,8,8]⟩ : ByteArray) ((a0 / 65536) % 256)))))) else (none)) else (none))) else (if a0 ≥ 256 then (if 0 ≤ ((a0 / 256) % 256) then (if ((a0 / 256) % 256) < 256 then (some (wrap64 ((0 + 8) + (wrap64 (bt (⟨#[0,1,2,2,3,3,3,3,4,4,4,4,4,4,4,4,5,5,5,5,5,5,5,5,5,5,5,5,5,5,5,5,6,6,6,6,6,6,6,6,6,6,6,6,6,6,6,6,6,6,6,6,6,6,6,6,6,6,6,6,6,6,6,6,7,7,7,7,7,7,7,7,7,7,7,7,7,7,7,7,7,7,7,7,7,7,7,7,7,7,7,7,7,7,7,7,7,7,7,7,7,7,7,7,7,7,7,7,7,7,7,7,7,7,7,7,7,7,7,7,7,7,7,7,7,7,7,7,8,8,8,8,8,8,8,8,8,8,8,8,8,8,8,8,8,8,8,8,8,8,8,8,8,8,8,8,8,8,8,8,8,8,8,8,8,8,8,8,8,8,8,8,8,8,8,8,8,8,8,8,8,8,8,8,8,8,8,8,8,8,8,8,8,8,8,8,8,8,8,8,8,8,8,8,8,8,8,8,8,8,8,8,8,8,8,8,8,8,8,8,8,8,8,8,8,8,8,8,8,8,8,8,8,8,8,8,8,8,8,8,8,8,8,8,8,8,8,8,8,8,8,8,8,8,8,8]⟩ : ByteArray) ((a0 / 256) % 256)))))) else (none)) else (none)) else (if 0 ≤ ((a0) % 256) then (if ((a0) % 256) < 256 then (some (wrap64 (0 + (wrap64 (bt (⟨#[0,1,2,2,3,3,3,3,4,4,4,4,4,4,4,4,5,5,5,5,5,5,5,5,5,5,5,5,5,5,5,5,6,6,6,6,6,6,6,6,6,6,6,6,6,6,6,6,6,6,6,6,6,6,6,6,6,6,6,6,6,6,6,6,7,7,7,7,7,7,7,7,7,7,7,7,7,7,7,7,7,7,7,7,7,7,7,7,7,7,7,7,7,7,7,7,7,7,7,7,7,7,7,7,7,7,7,7,7,7,7,7,7,7,7,7,7,7,7,7,7,7,7,7,7,7,7,7,8,8,8,8,8,8,8,8,8,8,8,8,8,8,8,8,8,8,8,8,8,8,8,8,8,8,8,8,8,8,8,8,8,8,8,8,8,8,8,8,8,8,8,8,8,8,8,8,8,8,8,8,8,8,8,8,8,8,8,8,8,8,8,8,8,8,8,8,8,8,8,8,8,8,8,8,8,8,8,8,8,8,8,8,8,8,8,8,8,8,8,8,8,8,8,8,8,8,8,8,8,8,8,8,8,8,8,8,8,8,8,8,8,8,8,8,8,8,8,8,8,8,8,8,8,8,8,8]⟩ : ByteArray) ((a0) % 256)))))) else (none)) else (none)))) = some r:=h
 clear h
 by_cases c2 : a0 ≥ 65536
 ·
  rw [if_pos c2] at H
  have c2b0 : decide (65536 ≤ a0) = true:=decide_eq_true c2
  clear c2
  by_cases c3 : (a0 / 65536) ≥ 256
  ·
   rw [if_pos c3] at H
   have c3b0 : decide (256 ≤ (a0 / 65536)) = true:=decide_eq_true c3
   clear c3
   obtain ⟨ji4,hji4⟩ : ∃ j_ : Int,(((a0 / 65536) / 256) % 256) = j_:=⟨_,rfl⟩
   replace H : (if 0 ≤ (ji4) then (if (ji4) < 256 then (some (wrap64 ((16 + 8) + (wrap64 (bt (⟨#[0,1,2,2,3,3,3,3,4,4,4,4,4,4,4,4,5,5,5,5,5,5,5,5,5,5,5,5,5,5,5,5,6,6,6,6,6,6,6,6,6,6,6,6,6,6,6,6,6,6,6,6,6,6,6,6,6,6,6,6,6,6,6,6,7,7,7,7,7,7,7,7,7,7,7,7,7,7,7,7,7,7,7,7,7,7,7,7,7,7,7,7,7,7,7,7,7,7,7,7,7,7,7,7,7,7,7,7,7,7,7,7,7,7,7,7,7,7,7,7,7,7,7,7,7,7,7,7,8,8,8,8,8,8,8,8,8,8,8,8,8,8,8,8,8,8,8,8,8,8,8,8,8,8,8,8,8,8,8,8,8,8,8,8,8,8,8,8,8,8,8,8,8,8,8,8,8,8,8,8,8,8,8,8,8,8,8,8,8,8,8,8,8,8,8,8,8,8,8,8,8,8,8,8,8,8,8,8,8,8,8,8,8,8,8,8,8,8,8,8,8,8,8,8,8,8,8,8,8,8,8,8,8,8,8,8,8,8,8,8,8,8,8,8,8,8,8,8,8,8,8,8,8,8,8,8]⟩ : ByteArray) (ji4)))))) else (none)) else (none)) = some r:=by first|(rw [hji4] at H;exact H)|(simp only [hji4] at H ⊢;exact H)
   by_cases c5 : 0 ≤ (ji4)
   ·
    rw [if_pos c5] at H
    have c5b0 : decide (0 ≤ (ji4)) = true:=decide_eq_true c5
    clear c5
    by_cases c6 : (ji4) < 256
    ·
     rw [if_pos c6] at H
     have c6b0 : decide ((ji4) < 256) = true:=decide_eq_true c6
     clear c6
     obtain rfl:=Option.some.inj H
     have p7 : 0 ≤ ((ji4) : Int):=of_decide_eq_true uq1
     have q7 : (ji4) < (256 : Int):=of_decide_eq_true uq1
     have hx7:=bt_at (⟨#[0,1,2,2,3,3,3,3,4,4,4,4,4,4,4,4,5,5,5,5,5,5,5,5,5,5,5,5,5,5,5,5,6,6,6,6,6,6,6,6,6,6,6,6,6,6,6,6,6,6,6,6,6,6,6,6,6,6,6,6,6,6,6,6,7,7,7,7,7,7,7,7,7,7,7,7,7,7,7,7,7,7,7,7,7,7,7,7,7,7,7,7,7,7,7,7,7,7,7,7,7,7,7,7,7,7,7,7,7,7,7,7,7,7,7,7,7,7,7,7,7,7,7,7,7,7,7,7,8,8,8,8,8,8,8,8,8,8,8,8,8,8,8,8,8,8,8,8,8,8,8,8,8,8,8,8,8,8,8,8,8,8,8,8,8,8,8,8,8,8,8,8,8,8,8,8,8,8,8,8,8,8,8,8,8,8,8,8,8,8,8,8,8,8,8,8,8,8,8,8,8,8,8,8,8,8,8,8,8,8,8,8,8,8,8,8,8,8,8,8,8,8,8,8,8,8,8,8,8,8,8,8,8,8,8,8,8,8,8,8,8,8,8,8,8,8,8,8,8,8,8,8,8,8,8,8]⟩ : ByteArray) (ji4)
     replace p7:=eq_true p7
     replace q7:=eq_true q7
     go_enter Try.func105,Try.ntmps105
     go_wp2
     go_ret
     exact ⟨by first|rfl|(simp;done)|(simp only [← hji4] <;> (first|rfl|simp))|(simp [*];done),uq7⟩
    ·
     rw [if_neg c6] at H
     exact absurd H (by simp)
   ·
    rw [if_neg c5] at H
    exact absurd H (by simp)
  ·
   rw [if_neg c3] at H
   have c3b0 : decide (256 ≤ (a0 / 65536)) = false:=decide_eq_false c3
   clear c3
   obtain ⟨ji8,hji8⟩ : ∃ j_ : Int,((a0 / 65536) % 256) = j_:=⟨_,rfl⟩
   replace H : (if 0 ≤ (ji8) then (if (ji8) < 256 then (some (wrap64 (16 + (wrap64 (bt (⟨#[0,1,2,2,3,3,3,3,4,4,4,4,4,4,4,4,5,5,5,5,5,5,5,5,5,5,5,5,5,5,5,5,6,6,6,6,6,6,6,6,6,6,6,6,6,6,6,6,6,6,6,6,6,6,6,6,6,6,6,6,6,6,6,6,7,7,7,7,7,7,7,7,7,7,7,7,7,7,7,7,7,7,7,7,7,7,7,7,7,7,7,7,7,7,7,7,7,7,7,7,7,7,7,7,7,7,7,7,7,7,7,7,7,7,7,7,7,7,7,7,7,7,7,7,7,7,7,7,8,8,8,8,8,8,8,8,8,8,8,8,8,8,8,8,8,8,8,8,8,8,8,8,8,8,8,8,8,8,8,8,8,8,8,8,8,8,8,8,8,8,8,8,8,8,8,8,8,8,8,8,8,8,8,8,8,8,8,8,8,8,8,8,8,8,8,8,8,8,8,8,8,8,8,8,8,8,8,8,8,8,8,8,8,8,8,8,8,8,8,8,8,8,8,8,8,8,8,8,8,8,8,8,8,8,8,8,8,8,8,8,8,8,8,8,8,8,8,8,8,8,8,8,8,8,8,8]⟩ : ByteArray) (ji8)))))) else (none)) else (none)) = some r:=by first|(rw [hji8] at H;exact H)|(simp only [hji8] at H ⊢;exact H)
   by_cases c9 : 0 ≤ (ji8)
   ·
    rw [if_pos c9] at H
    have c9b0 : decide (0 ≤ (ji8)) = true:=decide_eq_true c9
    clear c9
    by_cases c10 : (ji8) < 256
    ·
     rw [if_pos c10] at H
     have c10b0 : decide ((ji8) < 256) = true:=decide_eq_true c10
     clear c10
     obtain rfl:=Option.some.inj H
     have p11 : 0 ≤ ((ji8) : Int):=of_decide_eq_true uq1
     have q11 : (ji8) < (256 : Int):=of_decide_eq_true uq1
     have hx11:=bt_at (⟨#[0,1,2,2,3,3,3,3,4,4,4,4,4,4,4,4,5,5,5,5,5,5,5,5,5,5,5,5,5,5,5,5,6,6,6,6,6,6,6,6,6,6,6,6,6,6,6,6,6,6,6,6,6,6,6,6,6,6,6,6,6,6,6,6,7,7,7,7,7,7,7,7,7,7,7,7,7,7,7,7,7,7,7,7,7,7,7,7,7,7,7,7,7,7,7,7,7,7,7,7,7,7,7,7,7,7,7,7,7,7,7,7,7,7,7,7,7,7,7,7,7,7,7,7,7,7,7,7,8,8,8,8,8,8,8,8,8,8,8,8,8,8,8,8,8,8,8,8,8,8,8,8,8,8,8,8,8,8,8,8,8,8,8,8,8,8,8,8,8,8,8,8,8,8,8,8,8,8,8,8,8,8,8,8,8,8,8,8,8,8,8,8,8,8,8,8,8,8,8,8,8,8,8,8,8,8,8,8,8,8,8,8,8,8,8,8,8,8,8,8,8,8,8,8,8,8,8,8,8,8,8,8,8,8,8,8,8,8,8,8,8,8,8,8,8,8,8,8,8,8,8,8,8,8,8,8]⟩ : ByteArray) (ji8)
     replace p11:=eq_true p11
     replace q11:=eq_true q11
     go_enter Try.func105,Try.ntmps105
     go_wp2
     go_ret
     exact ⟨by first|rfl|(simp;done)|(simp only [← hji8] <;> (first|rfl|simp))|(simp [*];done),uq7⟩
    ·
     rw [if_neg c10] at H
     exact absurd H (by simp)
   ·
    rw [if_neg c9] at H
    exact absurd H (by simp)
 ·
  rw [if_neg c2] at H
  have c2b0 : decide (65536 ≤ a0) = false:=decide_eq_false c2
  clear c2
  by_cases c12 : a0 ≥ 256
  ·
   rw [if_pos c12] at H
   have c12b0 : decide (256 ≤ a0) = true:=decide_eq_true c12
   clear c12
   obtain ⟨ji13,hji13⟩ : ∃ j_ : Int,((a0 / 256) % 256) = j_:=⟨_,rfl⟩
   replace H : (if 0 ≤ (ji13) then (if (ji13) < 256 then (some (wrap64 ((0 + 8) + (wrap64 (bt (⟨#[0,1,2,2,3,3,3,3,4,4,4,4,4,4,4,4,5,5,5,5,5,5,5,5,5,5,5,5,5,5,5,5,6,6,6,6,6,6,6,6,6,6,6,6,6,6,6,6,6,6,6,6,6,6,6,6,6,6,6,6,6,6,6,6,7,7,7,7,7,7,7,7,7,7,7,7,7,7,7,7,7,7,7,7,7,7,7,7,7,7,7,7,7,7,7,7,7,7,7,7,7,7,7,7,7,7,7,7,7,7,7,7,7,7,7,7,7,7,7,7,7,7,7,7,7,7,7,7,8,8,8,8,8,8,8,8,8,8,8,8,8,8,8,8,8,8,8,8,8,8,8,8,8,8,8,8,8,8,8,8,8,8,8,8,8,8,8,8,8,8,8,8,8,8,8,8,8,8,8,8,8,8,8,8,8,8,8,8,8,8,8,8,8,8,8,8,8,8,8,8,8,8,8,8,8,8,8,8,8,8,8,8,8,8,8,8,8,8,8,8,8,8,8,8,8,8,8,8,8,8,8,8,8,8,8,8,8,8,8,8,8,8,8,8,8,8,8,8,8,8,8,8,8,8,8,8]⟩ : ByteArray) (ji13)))))) else (none)) else (none)) = some r:=by first|(rw [hji13] at H;exact H)|(simp only [hji13] at H ⊢;exact H)
   by_cases c14 : 0 ≤ (ji13)
   ·
    rw [if_pos c14] at H
    have c14b0 : decide (0 ≤ (ji13)) = true:=decide_eq_true c14
    clear c14
    by_cases c15 : (ji13) < 256
    ·
     rw [if_pos c15] at H
     have c15b0 : decide ((ji13) < 256) = true:=decide_eq_true c15
     clear c15
     obtain rfl:=Option.some.inj H
     have p16 : 0 ≤ ((ji13) : Int):=of_decide_eq_true uq1
     have q16 : (ji13) < (256 : Int):=of_decide_eq_true uq1
     have hx16:=bt_at (⟨#[0,1,2,2,3,3,3,3,4,4,4,4,4,4,4,4,5,5,5,5,5,5,5,5,5,5,5,5,5,5,5,5,6,6,6,6,6,6,6,6,6,6,6,6,6,6,6,6,6,6,6,6,6,6,6,6,6,6,6,6,6,6,6,6,7,7,7,7,7,7,7,7,7,7,7,7,7,7,7,7,7,7,7,7,7,7,7,7,7,7,7,7,7,7,7,7,7,7,7,7,7,7,7,7,7,7,7,7,7,7,7,7,7,7,7,7,7,7,7,7,7,7,7,7,7,7,7,7,8,8,8,8,8,8,8,8,8,8,8,8,8,8,8,8,8,8,8,8,8,8,8,8,8,8,8,8,8,8,8,8,8,8,8,8,8,8,8,8,8,8,8,8,8,8,8,8,8,8,8,8,8,8,8,8,8,8,8,8,8,8,8,8,8,8,8,8,8,8,8,8,8,8,8,8,8,8,8,8,8,8,8,8,8,8,8,8,8,8,8,8,8,8,8,8,8,8,8,8,8,8,8,8,8,8,8,8,8,8,8,8,8,8,8,8,8,8,8,8,8,8,8,8,8,8,8,8]⟩ : ByteArray) (ji13)
     replace p16:=eq_true p16
     replace q16:=eq_true q16
     go_enter Try.func105,Try.ntmps105
     go_wp2
     go_ret
     exact ⟨by first|rfl|(simp;done)|(simp only [← hji13] <;> (first|rfl|simp))|(simp [*];done),uq7⟩
    ·
     rw [if_neg c15] at H
     exact absurd H (by simp)
   ·
    rw [if_neg c14] at H
    exact absurd H (by simp)
  ·
   rw [if_neg c12] at H
   have c12b0 : decide (256 ≤ a0) = false:=decide_eq_false c12
   clear c12
   obtain ⟨ji17,hji17⟩ : ∃ j_ : Int,((a0) % 256) = j_:=⟨_,rfl⟩
   replace H : (if 0 ≤ (ji17) then (if (ji17) < 256 then (some (wrap64 (0 + (wrap64 (bt (⟨#[0,1,2,2,3,3,3,3,4,4,4,4,4,4,4,4,5,5,5,5,5,5,5,5,5,5,5,5,5,5,5,5,6,6,6,6,6,6,6,6,6,6,6,6,6,6,6,6,6,6,6,6,6,6,6,6,6,6,6,6,6,6,6,6,7,7,7,7,7,7,7,7,7,7,7,7,7,7,7,7,7,7,7,7,7,7,7,7,7,7,7,7,7,7,7,7,7,7,7,7,7,7,7,7,7,7,7,7,7,7,7,7,7,7,7,7,7,7,7,7,7,7,7,7,7,7,7,7,8,8,8,8,8,8,8,8,8,8,8,8,8,8,8,8,8,8,8,8,8,8,8,8,8,8,8,8,8,8,8,8,8,8,8,8,8,8,8,8,8,8,8,8,8,8,8,8,8,8,8,8,8,8,8,8,8,8,8,8,8,8,8,8,8,8,8,8,8,8,8,8,8,8,8,8,8,8,8,8,8,8,8,8,8,8,8,8,8,8,8,8,8,8,8,8,8,8,8,8,8,8,8,8,8,8,8,8,8,8,8,8,8,8,8,8,8,8,8,8,8,8,8,8,8,8,8,8]⟩ : ByteArray) (ji17)))))) else (none)) else (none)) = some r:=by first|(rw [hji17] at H;exact H)|(simp only [hji17] at H ⊢;exact H)
   by_cases c18 : 0 ≤ (ji17)
   ·
    rw [if_pos c18] at H
    have c18b0 : decide (0 ≤ (ji17)) = true:=decide_eq_true c18
    clear c18
    by_cases c19 : (ji17) < 256
    ·
     rw [if_pos c19] at H
     have c19b0 : decide ((ji17) < 256) = true:=decide_eq_true c19
     clear c19
     obtain rfl:=Option.some.inj H
     have p20 : 0 ≤ ((ji17) : Int):=of_decide_eq_true uq1
     have q20 : (ji17) < (256 : Int):=of_decide_eq_true uq1
     have hx20:=bt_at (⟨#[0,1,2,2,3,3,3,3,4,4,4,4,4,4,4,4,5,5,5,5,5,5,5,5,5,5,5,5,5,5,5,5,6,6,6,6,6,6,6,6,6,6,6,6,6,6,6,6,6,6,6,6,6,6,6,6,6,6,6,6,6,6,6,6,7,7,7,7,7,7,7,7,7,7,7,7,7,7,7,7,7,7,7,7,7,7,7,7,7,7,7,7,7,7,7,7,7,7,7,7,7,7,7,7,7,7,7,7,7,7,7,7,7,7,7,7,7,7,7,7,7,7,7,7,7,7,7,7,8,8,8,8,8,8,8,8,8,8,8,8,8,8,8,8,8,8,8,8,8,8,8,8,8,8,8,8,8,8,8,8,8,8,8,8,8,8,8,8,8,8,8,8,8,8,8,8,8,8,8,8,8,8,8,8,8,8,8,8,8,8,8,8,8,8,8,8,8,8,8,8,8,8,8,8,8,8,8,8,8,8,8,8,8,8,8,8,8,8,8,8,8,8,8,8,8,8,8,8,8,8,8,8,8,8,8,8,8,8,8,8,8,8,8,8,8,8,8,8,8,8,8,8,8,8,8,8]⟩ : ByteArray) (ji17)
     replace p20:=eq_true p20
     replace q20:=eq_true q20
     go_enter Try.func105,Try.ntmps105
     go_wp2
     go_ret
     exact ⟨by first|rfl|(simp;done)|(simp only [← hji17] <;> (first|rfl|simp))|(simp [*];done),uq7⟩
    ·
     rw [if_neg c19] at H
     exact absurd H (by simp)
   ·
    rw [if_neg c18] at H
    exact absurd H (by simp)

end Go.Proofs.Ytdnhfofmfpgmmaa.PSegmentBack
