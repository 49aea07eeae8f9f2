/- This file proves, function by function, what the Go functions that one law uses compute; most of it was printed by a program (wip/tools of this session, over the kit's print). -/
import Derived.Test.YtdnhfofmfpgmmaaPSegmentShortx0
namespace Go.Proofs.Ytdnhfofmfpgmmaa.PSegmentShort
open Go.RowKit Go.Proofs.YtdnhfofmfpgmmaaW.PrintWords Go.Proofs.YtdnhfofmfpgmmaaW.PrintLast Go.Proofs.YtdnhfofmfpgmmaaW.PrintMore
attribute [local go_sem] max2_int min2_int max_two min_two max_three min_three max_four min_four   -- for this text's walks alone
set_option linter.unusedVariables false
set_option linter.unusedSimpArgs false

/-! ### shapesearchref03_Width: function 15 -/
mutual
def shapesearchref03_Width.l0 : Nat → List Int → Int → Int → Int → Option (Int)
 | 0,_,_,_,_=>none
 | k + 1,x0,x3,x6,x7=>if x7 < x6 then (if 0 ≤ x7 then (if x7 < (x0.length : Int) then (if (rd x0 x7) < 0 then (shapesearchref03_Width.j1 k x0 x3 x7 x6 x7 true) else (shapesearchref03_Width.j1 k x0 x3 x7 x6 x7 (decide ((rd x0 x7) > 4294967295)))) else (none)) else (none)) else (some x3)
def shapesearchref03_Width.j1 : Nat → List Int → Int → Int → Int → Int → Bool → Option (Int)
 | 0,_,_,_,_,_,_=>none
 | k + 1,x0,x3,x4,x6,x7,x21=>if x21 = true then (some (-1)) else (shapesearchref03_Width.l1 k x0 x3 x4 x6 x7)
def shapesearchref03_Width.l1 : Nat → List Int → Int → Int → Int → Int → Option (Int)
 | 0,_,_,_,_,_=>none
 | k + 1,x0,x3,x4,x6,x7=>if 0 ≤ x4 then (if x4 < (x0.length : Int) then (if 0 ≤ x3 then (if (rd x0 x4) ≥ (shl .i64 1 x3) then (shapesearchref03_Width.l1 k x0 (wrap64 (x3 + 1)) x4 x6 x7) else (shapesearchref03_Width.l0 k x0 x3 x6 (wrap64 (x7 + 1)))) else (none)) else (none)) else (none)
end
def shapesearchref03_Width.f (k : Nat) (l0 : List Int) : Option (Int):=shapesearchref03_Width.l0 k l0 0 (l0.length : Int) 0
theorem shapesearchref03_Width.mono_l : ∀ k,(∀ y0 y1 y2 y3,LeO (shapesearchref03_Width.l0 k y0 y1 y2 y3) (shapesearchref03_Width.l0 (k + 1) y0 y1 y2 y3))∧(∀ y0 y1 y2 y3 y4 y5,LeO (shapesearchref03_Width.j1 k y0 y1 y2 y3 y4 y5) (shapesearchref03_Width.j1 (k + 1) y0 y1 y2 y3 y4 y5))∧(∀ y0 y1 y2 y3 y4,LeO (shapesearchref03_Width.l1 k y0 y1 y2 y3 y4) (shapesearchref03_Width.l1 (k + 1) y0 y1 y2 y3 y4))
 | 0=>⟨fun _ _ _ _ r h=>by simp [shapesearchref03_Width.l0] at h,fun _ _ _ _ _ _ r h=>by simp [shapesearchref03_Width.j1] at h,fun _ _ _ _ _ r h=>by simp [shapesearchref03_Width.l1] at h⟩
 | k + 1=>by
  obtain ⟨ih0,ih1,ih2⟩:=shapesearchref03_Width.mono_l k
  refine ⟨?_,?_,?_⟩
  ·
   intro y0 y1 y2 y3
   unfold shapesearchref03_Width.l0
   repeat' first|(with_reducible first|apply ih0|apply ih1|apply ih2|exact lz|refine LeO.ite ?_ ?_|refine LeO.bind ?_ fun _=>?_)
  ·
   intro y0 y1 y2 y3 y4 y5
   unfold shapesearchref03_Width.j1
   repeat' first|(with_reducible first|apply ih0|apply ih1|apply ih2|exact lz|refine LeO.ite ?_ ?_|refine LeO.bind ?_ fun _=>?_)
  ·
   intro y0 y1 y2 y3 y4
   unfold shapesearchref03_Width.l1
   repeat' first|(with_reducible first|apply ih0|apply ih1|apply ih2|exact lz|refine LeO.ite ?_ ?_|refine LeO.bind ?_ fun _=>?_)
theorem shapesearchref03_Width.mono : ∀ a0 k,LeO (shapesearchref03_Width.f k a0) (shapesearchref03_Width.f (k + 1) a0):=by
 intro a0 k
 obtain ⟨ih0,ih1,ih2⟩:=shapesearchref03_Width.mono_l k
 unfold shapesearchref03_Width.f
 repeat' first|(with_reducible first|apply ih0|apply ih1|apply ih2|exact lz|refine LeO.ite ?_ ?_|refine LeO.bind ?_ fun _=>?_)
set_option maxHeartbeats 8000000 in
set_option maxRecDepth 100000 in
theorem shapesearchref03_Width.calls (k : Nat) (A0 : Option Addr) (c0 : Nat) (l0 : List Int) (r : Int) (w : World) (hr0 : Kd.C (Kd.int .i64) w A0 l0.length l0) (hc0 : l0.length ≤ c0) (h : shapesearchref03_Width.f k l0 = some r) :
  Calls Try.prog 15 #[.slice A0 l0.length c0] w fun e w'=>e = .returned (.int .i64 r)∧Drawn0 w w':=by
 have HR0:=A_ hr0
 have HC0:=A_ hc0
 clear hr0 hc0
 have H : (shapesearchref03_Width.l0 k l0 0 (l0.length : Int) 0) = some r:=h
 clear h
 have H':=A_ H
 clear H
 go_enter Try.func15,Try.ntmps15
 go_wp2
 repeat (go_quiet (fail);try go_wp2)
 go_loopg [3,7] k (fun kq v3 v7 w'=>∃ (x3_1 : Int) (x7_1 : Int),v3 = .int .i64 x3_1∧v7 = .int .i64 x7_1∧Aside0 (shapesearchref03_Width.l0 kq l0 x3_1 (l0.length : Int) x7_1 = some r)∧Aside0 (kq ≤ k)∧Drawn0 w w')
 case atStart=>exact ⟨(0),(0),uq3,uq3,H',⟨Nat.le_refl _⟩,uq6⟩
 case round =>
  clear H'
  try clear c1
  obtain ⟨x3_1,x7_1,rfl,rfl,HA,HK1,⟨m1,rfl⟩⟩:=hrel
  cases gk with
  | zero=>exact absurd HA.out (by simp [shapesearchref03_Width.l0])
  | succ k1 =>
   have H:=HA.out
   clear HA
   simp only [shapesearchref03_Width.l0] at H
   by_cases c2 : x7_1 < (l0.length : Int)
   ·
    rw [if_pos c2] at H
    have c2b0 : decide (x7_1 < (l0.length : Int)) = true:=decide_eq_true c2
    clear c2
    have HC3:=A_ H
    clear H
    go_upto_region 5 with (fail)
    repeat (go_quiet (fail);go_upto_region 5 with (fail))
    go_cut [21] (fun v21 wc=>∃ (kq : Nat) (x21_2 : Bool),v21 = .bool x21_2∧Aside0 (shapesearchref03_Width.j1 kq l0 x3_1 x7_1 (l0.length : Int) x7_1 x21_2 = some r)∧Aside0 (kq ≤ k1)∧Drawn0 w wc)
    case first =>
     have H:=HC3.out
     clear HC3
     by_cases c4 : 0 ≤ x7_1
     ·
      rw [if_pos c4] at H
      have c4b0 : decide (0 ≤ x7_1) = true:=decide_eq_true c4
      clear c4
      (first|rw [c4b0]|(simp only [i64_w,i32_w];rw [c4b0])|skip)
      by_cases c5 : x7_1 < (l0.length : Int)
      ·
       rw [if_pos c5] at H
       have c5b0 : decide (x7_1 < (l0.length : Int)) = true:=decide_eq_true c5
       clear c5
       by_cases c6 : (rd l0 x7_1) < 0
       ·
        rw [if_pos c6] at H
        have c6b0 : decide ((rd l0 x7_1) < 0) = true:=decide_eq_true c6
        clear c6
        have H':=A_ H
        clear H
        have p241 : 0 ≤ (x7_1 : Int):=of_decide_eq_true uq1
        have q241 : x7_1 < (l0.length : Int):=of_decide_eq_true uq1
        obtain ⟨ad241,e241,hx241_0⟩:=Kd.at_int HR0.out x7_1 p241 q241
        cases e241
        replace p241:=eq_true p241
        replace q241:=eq_true q241
        go_wp2
        repeat (go_quiet (fail);try go_wp2)
        go_meet
        case rel=>exact ⟨_,(true),uq3,H',⟨by have:=HK1.out;first|omega|exact Nat.le_refl _⟩,uq6⟩
       ·
        rw [if_neg c6] at H
        have c6b0 : decide ((rd l0 x7_1) < 0) = false:=decide_eq_false c6
        clear c6
        have H':=A_ H
        clear H
        have p241 : 0 ≤ (x7_1 : Int):=of_decide_eq_true uq1
        have q241 : x7_1 < (l0.length : Int):=of_decide_eq_true uq1
        obtain ⟨ad241,e241,hx241_0⟩:=Kd.at_int HR0.out x7_1 p241 q241
        cases e241
        replace p241:=eq_true p241
        replace q241:=eq_true q241
        have p242 : 0 ≤ (x7_1 : Int):=of_decide_eq_true uq1
        have q242 : x7_1 < (l0.length : Int):=of_decide_eq_true uq1
        obtain ⟨ad242,e242,hx242_0⟩:=Kd.at_int HR0.out x7_1 p242 q242
        obtain rfl : ad241 = ad242:=(by injection e242)
        replace p242:=eq_true p242
        replace q242:=eq_true q242
        go_wp2
        repeat (go_quiet (fail);try go_wp2)
        go_meet
        case rel=>exact ⟨_,(decide ((rd l0 x7_1) > 4294967295)),uq3,H',⟨by have:=HK1.out;first|omega|exact Nat.le_refl _⟩,uq6⟩
      ·
       rw [if_neg c5] at H
       exact absurd H (by simp)
     ·
      rw [if_neg c4] at H
      exact absurd H (by simp)
    case rest =>
     clear HC3
     try clear c1
     try clear c2
     try clear c2b0
     try clear p2
     try clear q2
     try clear hx2
     try clear c4
     try clear c4b0
     try clear c5
     try clear c5b0
     try clear c6
     try clear c6b0
     try clear hx241_0
     try clear hx242_0
     try clear p241
     try clear p242
     try clear q241
     try clear q242
     obtain ⟨kq,x21_2,rfl,HA,HJ2,⟨mc2,rfl⟩⟩:=hcut
     cases kq with
     | zero=>exact absurd HA.out (by simp [shapesearchref03_Width.j1])
     | succ kj2 =>
      have H:=HA.out
      clear HA
      simp only [shapesearchref03_Width.j1] at H
      by_cases c7 : x21_2 = true
      ·
       subst c7
       have H1 : (some (-1)) = some r:=by rw [if_pos rfl] at H;exact H
       clear H
       have H:=H1
       clear H1
       obtain rfl:=Option.some.inj H
       go_wp2
       repeat (go_quiet (fail);try go_wp2)
       go_ret
       exact ⟨by first|rfl|(simp;done)|(simp [*];done),uq6⟩
      ·
       replace c7:=Bool.eq_false_iff.mpr c7
       subst c7
       have H1 : (shapesearchref03_Width.l1 kj2 l0 x3_1 x7_1 (l0.length : Int) x7_1) = some r:=by rw [if_neg (show ¬ (false = true) by decide)] at H;exact H
       clear H
       have H:=H1
       clear H1
       have H':=A_ H
       clear H
       go_wp2
       repeat (go_quiet (fail);try go_wp2)
       go_loopg [3] kj2 (fun kq v3 w'=>∃ (x3_3 : Int),v3 = .int .i64 x3_3∧Aside0 (shapesearchref03_Width.l1 kq l0 x3_3 x7_1 (l0.length : Int) x7_1 = some r)∧Aside0 (kq ≤ kj2)∧Drawn0 w w')
       case atStart=>exact ⟨(x3_1),uq3,H',⟨Nat.le_refl _⟩,uq6⟩
       case round =>
        clear H'
        try clear c1
        try clear c2
        try clear c2b0
        try clear p2
        try clear q2
        try clear hx2
        try clear c4
        try clear c4b0
        try clear c5
        try clear c5b0
        try clear c6
        try clear c6b0
        try clear c7
        try clear hx241_0
        try clear hx242_0
        try clear p2
        try clear p241
        try clear p242
        try clear q2
        try clear q241
        try clear q242
        obtain ⟨x3_3,rfl,HA,HK3,⟨m3,rfl⟩⟩:=hrel
        cases gk with
        | zero=>exact absurd HA.out (by simp [shapesearchref03_Width.l1])
        | succ k3 =>
         have H:=HA.out
         clear HA
         simp only [shapesearchref03_Width.l1] at H
         by_cases c8 : 0 ≤ x7_1
         ·
          rw [if_pos c8] at H
          have c8b0 : decide (0 ≤ x7_1) = true:=decide_eq_true c8
          clear c8
          by_cases c9 : x7_1 < (l0.length : Int)
          ·
           rw [if_pos c9] at H
           have c9b0 : decide (x7_1 < (l0.length : Int)) = true:=decide_eq_true c9
           clear c9
           by_cases c10 : 0 ≤ x3_3
           ·
            rw [if_pos c10] at H
            have c10b0:=eq_true c10
            have c10b1 : decide (0 ≤ x3_3) = true:=decide_eq_true c10
            clear c10
            obtain ⟨ji11,hji11⟩ : ∃ j_ : Int,(shl .i64 1 x3_3) = j_:=⟨_,rfl⟩
            replace H : (if (rd l0 x7_1) ≥ (ji11) then (shapesearchref03_Width.l1 k3 l0 (wrap64 (x3_3 + 1)) x7_1 (l0.length : Int) x7_1) else (shapesearchref03_Width.l0 k3 l0 x3_3 (l0.length : Int) (wrap64 (x7_1 + 1)))) = some r:=by first|(rw [hji11] at H;exact H)|(simp only [hji11] at H ⊢;exact H)
            have hji11_ : (IntKind.i64.wrap (1 * 2 ^ min x3_3.toNat 64)) = ji11:=hji11
            have hji11z : x3_3 ≤ 64 → (IntKind.i64.wrap (1 * 2 ^ x3_3.toNat)) = ji11:=shl_small hji11
            have hji11u : (IntKind.i64.wrap (2 ^ min x3_3.toNat 64)) = ji11:=by have h_:=hji11_;rw [Int.one_mul] at h_;exact h_
            have hji11v : x3_3 ≤ 64 → (IntKind.i64.wrap (2 ^ x3_3.toNat)) = ji11:=fun hle_=>by have h_:=hji11z hle_;rw [Int.one_mul] at h_;exact h_
            have hji11y : (wrap64 (1 * 2 ^ min x3_3.toNat 64)) = ji11:=(i64_w _).symm.trans hji11_
            have hji11x : x3_3 ≤ 64 → (wrap64 (1 * 2 ^ x3_3.toNat)) = ji11:=fun h_=>(i64_w _).symm.trans (hji11z h_)
            by_cases c12 : (rd l0 x7_1) ≥ (ji11)
            ·
             rw [if_pos c12] at H
             have c12b0 : decide ((ji11) ≤ (rd l0 x7_1)) = true:=decide_eq_true c12
             clear c12
             have H':=A_ H
             clear H
             have p243 : 0 ≤ (x7_1 : Int):=of_decide_eq_true uq1
             have q243 : x7_1 < (l0.length : Int):=of_decide_eq_true uq1
             obtain ⟨ad243,e243,hx243_0⟩:=Kd.at_int HR0.out x7_1 p243 q243
             cases e243
             replace p243:=eq_true p243
             replace q243:=eq_true q243
             go_wp2
             repeat (go_quiet (fail);try go_wp2)
             go_roundg k3
             case measure=>have:=HK1.out;have:=HJ2.out;have:=HK3.out;omega
             case rel=>exact ⟨(wrap64 (x3_3 + 1)),uq3,H',⟨by have:=HK1.out;have:=HJ2.out;have:=HK3.out;omega⟩,uq6⟩
            ·
             rw [if_neg c12] at H
             have c12b0 : decide ((ji11) ≤ (rd l0 x7_1)) = false:=decide_eq_false c12
             clear c12
             have H':=A_ H
             clear H
             have p243 : 0 ≤ (x7_1 : Int):=of_decide_eq_true uq1
             have q243 : x7_1 < (l0.length : Int):=of_decide_eq_true uq1
             obtain ⟨ad243,e243,hx243_0⟩:=Kd.at_int HR0.out x7_1 p243 q243
             cases e243
             replace p243:=eq_true p243
             replace q243:=eq_true q243
             go_wp2
             repeat (go_quiet (fail);try go_wp2)
             go_roundg k3
             case measure=>have:=HK1.out;have:=HJ2.out;have:=HK3.out;omega
             case rel=>exact ⟨(x3_3),(wrap64 (x7_1 + 1)),uq3,uq3,H',⟨by have:=HK1.out;have:=HJ2.out;have:=HK3.out;omega⟩,uq6⟩
           ·
            rw [if_neg c10] at H
            exact absurd H (by simp)
          ·
           rw [if_neg c9] at H
           exact absurd H (by simp)
         ·
          rw [if_neg c8] at H
          exact absurd H (by simp)
   ·
    rw [if_neg c2] at H
    have c2b0 : decide (x7_1 < (l0.length : Int)) = false:=decide_eq_false c2
    clear c2
    obtain rfl:=Option.some.inj H
    go_wp2
    repeat (go_quiet (fail);try go_wp2)
    go_ret
    exact ⟨by first|rfl|(simp;done)|(simp [*];done),uq6⟩

/-! ### bytes_Equal: function 64 -/
def bytes_Equal.f (l0 : List Int) (l1 : List Int) : Option (Bool):=some ((strOfNums l0).toList == (strOfNums l1).toList)
set_option maxHeartbeats 8000000 in
set_option maxRecDepth 100000 in
theorem bytes_Equal.calls (A0 : Option Addr) (c0 : Nat) (l0 : List Int) (A1 : Option Addr) (c1 : Nat) (l1 : List Int) (r : Bool) (w : World) (hr0 : Kd.C (Kd.int .u8) w A0 l0.length l0) (hc0 : l0.length ≤ c0) (hr1 : Kd.C (Kd.int .u8) w A1 l1.length l1) (hc1 : l1.length ≤ c1) (h : bytes_Equal.f l0 l1 = some r) :
  Calls Try.prog 64 #[.slice A0 l0.length c0,.slice A1 l1.length c1] w fun e w'=>e = .returned (.bool r)∧Drawn0 w w':=by
 have HR0:=A_ hr0
 have HC0:=A_ hc0
 clear hr0 hc0
 have HR1:=A_ hr1
 have HC1:=A_ hc1
 clear hr1 hc1
 have H : (some ((strOfNums l0).toList == (strOfNums l1).toList)) = some r:=h
 clear h
 obtain rfl:=Option.some.inj H
 have hcv3:=Kd.C_string (P:=Try.prog) (A:=A0) (c:=c0) Try.underlying29 Try.underlying5 Try.underlying9 HR0.out
 have hcv4:=Kd.C_string (P:=Try.prog) (A:=A1) (c:=c1) Try.underlying29 Try.underlying5 Try.underlying9 HR1.out
 go_enter Try.func64,Try.ntmps64
 go_wp2
 go_ret
 exact ⟨by first|rfl|(simp;done)|(simp [*];done),uq6⟩

/-! ### codec_Int: function 71 -/
mutual
def codec_Int.j0 : Nat → List Int → Int → Bool → Option (Int × Int × Int)
 | 0,_,_,_=>none
 | k + 1,x0,x1,x17=>if x17 = true then (some (0,0,1)) else (codec_Int.l0 k x0 x1 0 0)
def codec_Int.l0 : Nat → List Int → Int → Int → Int → Option (Int × Int × Int)
 | 0,_,_,_,_=>none
 | k + 1,x0,x1,x7,x18=>if x18 < 10 then (if (wrap64 (x1 + x18)) ≥ (x0.length : Int) then (some (0,0,2)) else (if 0 ≤ (wrap64 (x1 + x18)) then (if (wrap64 (x1 + x18)) < (x0.length : Int) then (if 0 ≤ (wrap64 (7 * x18)) then (if (rd x0 (wrap64 (x1 + x18))) ≥ 128 then (codec_Int.l0 k x0 x1 (Go.bits .or .u64 x7 (shl .u64 (IntKind.u64.wrap (Go.bits .and .u8 (rd x0 (wrap64 (x1 + x18))) 127)) (wrap64 (7 * x18)))) (wrap64 (x18 + 1))) else (if x18 = 9 then (if (rd x0 (wrap64 (x1 + x18))) > 1 then (some (0,0,3)) else (if x18 > 0 then (if (rd x0 (wrap64 (x1 + x18))) = 0 then (some (0,0,3)) else (some (Go.bits .xor .i64 (wrap64 ((Go.bits .or .u64 x7 (shl .u64 (IntKind.u64.wrap (Go.bits .and .u8 (rd x0 (wrap64 (x1 + x18))) 127)) (wrap64 (7 * x18)))) / 2)) (wrap64 (-(wrap64 (Go.bits .and .u64 (Go.bits .or .u64 x7 (shl .u64 (IntKind.u64.wrap (Go.bits .and .u8 (rd x0 (wrap64 (x1 + x18))) 127)) (wrap64 (7 * x18)))) 1)))),wrap64 ((wrap64 (x1 + x18)) + 1),0))) else (some (Go.bits .xor .i64 (wrap64 ((Go.bits .or .u64 x7 (shl .u64 (IntKind.u64.wrap (Go.bits .and .u8 (rd x0 (wrap64 (x1 + x18))) 127)) (wrap64 (7 * x18)))) / 2)) (wrap64 (-(wrap64 (Go.bits .and .u64 (Go.bits .or .u64 x7 (shl .u64 (IntKind.u64.wrap (Go.bits .and .u8 (rd x0 (wrap64 (x1 + x18))) 127)) (wrap64 (7 * x18)))) 1)))),wrap64 ((wrap64 (x1 + x18)) + 1),0)))) else (if x18 > 0 then (if (rd x0 (wrap64 (x1 + x18))) = 0 then (some (0,0,3)) else (some (Go.bits .xor .i64 (wrap64 ((Go.bits .or .u64 x7 (shl .u64 (IntKind.u64.wrap (Go.bits .and .u8 (rd x0 (wrap64 (x1 + x18))) 127)) (wrap64 (7 * x18)))) / 2)) (wrap64 (-(wrap64 (Go.bits .and .u64 (Go.bits .or .u64 x7 (shl .u64 (IntKind.u64.wrap (Go.bits .and .u8 (rd x0 (wrap64 (x1 + x18))) 127)) (wrap64 (7 * x18)))) 1)))),wrap64 ((wrap64 (x1 + x18)) + 1),0))) else (some (Go.bits .xor .i64 (wrap64 ((Go.bits .or .u64 x7 (shl .u64 (IntKind.u64.wrap (Go.bits .and .u8 (rd x0 (wrap64 (x1 + x18))) 127)) (wrap64 (7 * x18)))) / 2)) (wrap64 (-(wrap64 (Go.bits .and .u64 (Go.bits .or .u64 x7 (shl .u64 (IntKind.u64.wrap (Go.bits .and .u8 (rd x0 (wrap64 (x1 + x18))) 127)) (wrap64 (7 * x18)))) 1)))),wrap64 ((wrap64 (x1 + x18)) + 1),0))))) else (none)) else (none)) else (none))) else (some (0,0,3))
end
def codec_Int.f (k : Nat) (l0 : List Int) (a1 : Int) : Option (Int × Int × Int):=if a1 < 0 then (codec_Int.j0 k l0 a1 true) else (codec_Int.j0 k l0 a1 (decide (a1 > (l0.length : Int))))
theorem codec_Int.mono_l : ∀ k,(∀ y0 y1 y2,LeO (codec_Int.j0 k y0 y1 y2) (codec_Int.j0 (k + 1) y0 y1 y2))∧(∀ y0 y1 y2 y3,LeO (codec_Int.l0 k y0 y1 y2 y3) (codec_Int.l0 (k + 1) y0 y1 y2 y3))
 | 0=>⟨fun _ _ _ r h=>by simp [codec_Int.j0] at h,fun _ _ _ _ r h=>by simp [codec_Int.l0] at h⟩
 | k + 1=>by
  obtain ⟨ih0,ih1⟩:=codec_Int.mono_l k
  refine ⟨?_,?_⟩
  ·
   intro y0 y1 y2
   unfold codec_Int.j0
   repeat' first|(with_reducible first|apply ih0|apply ih1|exact lz|refine LeO.ite ?_ ?_|refine LeO.bind ?_ fun _=>?_)
  ·
   intro y0 y1 y2 y3
   unfold codec_Int.l0
   repeat' first|(with_reducible first|apply ih0|apply ih1|exact lz|refine LeO.ite ?_ ?_|refine LeO.bind ?_ fun _=>?_)
theorem codec_Int.mono : ∀ a0 a1 k,LeO (codec_Int.f k a0 a1) (codec_Int.f (k + 1) a0 a1):=by
 intro a0 a1 k
 obtain ⟨ih0,ih1⟩:=codec_Int.mono_l k
 unfold codec_Int.f
 repeat' first|(with_reducible first|apply ih0|apply ih1|exact lz|refine LeO.ite ?_ ?_|refine LeO.bind ?_ fun _=>?_)
set_option maxHeartbeats 8000000 in
set_option maxRecDepth 100000 in
theorem codec_Int.calls (k : Nat) (A0 : Option Addr) (c0 : Nat) (l0 : List Int) (a1 : Int) (r1 : Int) (r2 : Int) (r3 : Int) (w : World) (hr0 : Kd.C (Kd.int .u8) w A0 l0.length l0) (hc0 : l0.length ≤ c0) (h : codec_Int.f k l0 a1 = some (r1,r2,r3)) :
  Calls Try.prog 71 #[.slice A0 l0.length c0,.int .i64 a1] w fun e w'=>e = .returned (.tuple #[.int .i64 r1,.int .i64 r2,.int .i64 r3])∧Drawn0 w w':=by
 have HR0:=A_ hr0
 have HC0:=A_ hc0
 clear hr0 hc0
 have H : (if a1 < 0 then (codec_Int.j0 k l0 a1 true) else (codec_Int.j0 k l0 a1 (decide (a1 > (l0.length : Int))))) = some (r1,r2,r3):=h
 clear h
 have HC3:=A_ H
 clear H
 go_enter Try.func71,Try.ntmps71
 go_upto_region 1 with (fail)
 go_cut [17] (fun v17 wc=>∃ (kq : Nat) (x17_2 : Bool),v17 = .bool x17_2∧Aside0 (codec_Int.j0 kq l0 a1 x17_2 = some (r1,r2,r3))∧Aside0 (kq ≤ k)∧Drawn0 w wc)
 case first =>
  have H:=HC3.out
  clear HC3
  by_cases c4 : a1 < 0
  ·
   rw [if_pos c4] at H
   have c4b0 : decide (a1 < 0) = true:=decide_eq_true c4
   clear c4
   (first|rw [c4b0]|(simp only [i64_w,i32_w];rw [c4b0])|skip)
   have H':=A_ H
   clear H
   go_wp2
   go_meet
   case rel=>exact ⟨_,(true),uq3,H',⟨by first|omega|exact Nat.le_refl _⟩,uq6⟩
  ·
   rw [if_neg c4] at H
   have c4b0 : decide (a1 < 0) = false:=decide_eq_false c4
   clear c4
   (first|rw [c4b0]|(simp only [i64_w,i32_w];rw [c4b0])|skip)
   have H':=A_ H
   clear H
   go_wp2
   go_meet
   case rel=>exact ⟨_,(decide (a1 > (l0.length : Int))),uq3,H',⟨by first|omega|exact Nat.le_refl _⟩,uq6⟩
 case rest =>
  clear HC3
  try clear p2
  try clear c4
  try clear c4b0
  obtain ⟨kq,x17_2,rfl,HA,HJ2,⟨mc2,rfl⟩⟩:=hcut
  cases kq with
  | zero=>exact absurd HA.out (by simp [codec_Int.j0])
  | succ kj2 =>
   have H:=HA.out
   clear HA
   simp only [codec_Int.j0] at H
   by_cases c5 : x17_2 = true
   ·
    subst c5
    have H1 : (some (0,0,1)) = some (r1,r2,r3):=by rw [if_pos rfl] at H;exact H
    clear H
    have H:=H1
    clear H1
    simp only [Option.some.injEq,Prod.mk.injEq] at H
    obtain ⟨rfl,rfl,rfl⟩:=H
    go_wp2
    go_ret3
    exact ⟨by first|rfl|(simp;done)|(simp [*];done),uq6⟩
   ·
    replace c5:=Bool.eq_false_iff.mpr c5
    subst c5
    have H1 : (codec_Int.l0 kj2 l0 a1 0 0) = some (r1,r2,r3):=by rw [if_neg (show ¬ (false = true) by decide)] at H;exact H
    clear H
    have H:=H1
    clear H1
    have H':=A_ H
    clear H
    go_wp2
    go_loopg [7,18] kj2 (fun kq v7 v18 w'=>∃ (x7_2 : Int) (x18_2 : Int),v7 = .int .u64 x7_2∧v18 = .int .i64 x18_2∧Aside0 (codec_Int.l0 kq l0 a1 x7_2 x18_2 = some (r1,r2,r3))∧Aside0 (kq ≤ kj2)∧Drawn0 w w')
    case atStart=>exact ⟨(0),(0),uq3,uq3,H',⟨Nat.le_refl _⟩,uq6⟩
    case round =>
     clear H'
     try clear c2
     try clear p2
     try clear c4
     try clear c4b0
     try clear c5
     try clear p2
     obtain ⟨x7_2,x18_2,rfl,rfl,HA,HK2,⟨m2,rfl⟩⟩:=hrel
     cases gk with
     | zero=>exact absurd HA.out (by simp [codec_Int.l0])
     | succ k2 =>
      have H:=HA.out
      clear HA
      simp only [codec_Int.l0] at H
      by_cases c6 : x18_2 < 10
      ·
       rw [if_pos c6] at H
       have c6b0 : decide (x18_2 < 10) = true:=decide_eq_true c6
       clear c6
       by_cases c7 : (wrap64 (a1 + x18_2)) ≥ (l0.length : Int)
       ·
        rw [if_pos c7] at H
        have c7b0 : decide ((l0.length : Int) ≤ (wrap64 (a1 + x18_2))) = true:=decide_eq_true c7
        clear c7
        simp only [Option.some.injEq,Prod.mk.injEq] at H
        obtain ⟨rfl,rfl,rfl⟩:=H
        go_wp2
        go_ret3
        exact ⟨by first|rfl|(simp;done)|(simp [*];done),uq6⟩
       ·
        rw [if_neg c7] at H
        have c7b0 : decide ((l0.length : Int) ≤ (wrap64 (a1 + x18_2))) = false:=decide_eq_false c7
        clear c7
        obtain ⟨ji8,hji8⟩ : ∃ j_ : Int,(wrap64 (a1 + x18_2)) = j_:=⟨_,rfl⟩
        replace H : (if 0 ≤ (ji8) then (if (ji8) < (l0.length : Int) then (if 0 ≤ (wrap64 (7 * x18_2)) then (if (rd l0 (ji8)) ≥ 128 then (codec_Int.l0 k2 l0 a1 (Go.bits .or .u64 x7_2 (shl .u64 (IntKind.u64.wrap (Go.bits .and .u8 (rd l0 (ji8)) 127)) (wrap64 (7 * x18_2)))) (wrap64 (x18_2 + 1))) else (if x18_2 = 9 then (if (rd l0 (ji8)) > 1 then (some (0,0,3)) else (if x18_2 > 0 then (if (rd l0 (ji8)) = 0 then (some (0,0,3)) else (some (Go.bits .xor .i64 (wrap64 ((Go.bits .or .u64 x7_2 (shl .u64 (IntKind.u64.wrap (Go.bits .and .u8 (rd l0 (ji8)) 127)) (wrap64 (7 * x18_2)))) / 2)) (wrap64 (-(wrap64 (Go.bits .and .u64 (Go.bits .or .u64 x7_2 (shl .u64 (IntKind.u64.wrap (Go.bits .and .u8 (rd l0 (ji8)) 127)) (wrap64 (7 * x18_2)))) 1)))),wrap64 ((ji8) + 1),0))) else (some (Go.bits .xor .i64 (wrap64 ((Go.bits .or .u64 x7_2 (shl .u64 (IntKind.u64.wrap (Go.bits .and .u8 (rd l0 (ji8)) 127)) (wrap64 (7 * x18_2)))) / 2)) (wrap64 (-(wrap64 (Go.bits .and .u64 (Go.bits .or .u64 x7_2 (shl .u64 (IntKind.u64.wrap (Go.bits .and .u8 (rd l0 (ji8)) 127)) (wrap64 (7 * x18_2)))) 1)))),wrap64 ((ji8) + 1),0)))) else (if x18_2 > 0 then (if (rd l0 (ji8)) = 0 then (some (0,0,3)) else (some (Go.bits .xor .i64 (wrap64 ((Go.bits .or .u64 x7_2 (shl .u64 (IntKind.u64.wrap (Go.bits .and .u8 (rd l0 (ji8)) 127)) (wrap64 (7 * x18_2)))) / 2)) (wrap64 (-(wrap64 (Go.bits .and .u64 (Go.bits .or .u64 x7_2 (shl .u64 (IntKind.u64.wrap (Go.bits .and .u8 (rd l0 (ji8)) 127)) (wrap64 (7 * x18_2)))) 1)))),wrap64 ((ji8) + 1),0))) else (some (Go.bits .xor .i64 (wrap64 ((Go.bits .or .u64 x7_2 (shl .u64 (IntKind.u64.wrap (Go.bits .and .u8 (rd l0 (ji8)) 127)) (wrap64 (7 * x18_2)))) / 2)) (wrap64 (-(wrap64 (Go.bits .and .u64 (Go.bits .or .u64 x7_2 (shl .u64 (IntKind.u64.wrap (Go.bits .and .u8 (rd l0 (ji8)) 127)) (wrap64 (7 * x18_2)))) 1)))),wrap64 ((ji8) + 1),0))))) else (none)) else (none)) else (none)) = some (r1,r2,r3):=by first|(rw [hji8] at H;exact H)|(simp only [hji8] at H ⊢;exact H)
        (try rw [hji8] at c7b0)
        have hji8w : (IntKind.i64.wrap (a1 + x18_2)) = ji8:=(i64_w _).trans hji8
        by_cases c9 : 0 ≤ (ji8)
        ·
         rw [if_pos c9] at H
         have c9b0 : decide (0 ≤ (ji8)) = true:=decide_eq_true c9
         clear c9
         by_cases c10 : (ji8) < (l0.length : Int)
         ·
          rw [if_pos c10] at H
          have c10b0 : decide ((ji8) < (l0.length : Int)) = true:=decide_eq_true c10
          clear c10
          obtain ⟨ji11,hji11⟩ : ∃ j_ : Int,(wrap64 (7 * x18_2)) = j_:=⟨_,rfl⟩
          replace H : (if 0 ≤ (ji11) then (if (rd l0 (ji8)) ≥ 128 then (codec_Int.l0 k2 l0 a1 (Go.bits .or .u64 x7_2 (shl .u64 (IntKind.u64.wrap (Go.bits .and .u8 (rd l0 (ji8)) 127)) (ji11))) (wrap64 (x18_2 + 1))) else (if x18_2 = 9 then (if (rd l0 (ji8)) > 1 then (some (0,0,3)) else (if x18_2 > 0 then (if (rd l0 (ji8)) = 0 then (some (0,0,3)) else (some (Go.bits .xor .i64 (wrap64 ((Go.bits .or .u64 x7_2 (shl .u64 (IntKind.u64.wrap (Go.bits .and .u8 (rd l0 (ji8)) 127)) (ji11))) / 2)) (wrap64 (-(wrap64 (Go.bits .and .u64 (Go.bits .or .u64 x7_2 (shl .u64 (IntKind.u64.wrap (Go.bits .and .u8 (rd l0 (ji8)) 127)) (ji11))) 1)))),wrap64 ((ji8) + 1),0))) else (some (Go.bits .xor .i64 (wrap64 ((Go.bits .or .u64 x7_2 (shl .u64 (IntKind.u64.wrap (Go.bits .and .u8 (rd l0 (ji8)) 127)) (ji11))) / 2)) (wrap64 (-(wrap64 (Go.bits .and .u64 (Go.bits .or .u64 x7_2 (shl .u64 (IntKind.u64.wrap (Go.bits .and .u8 (rd l0 (ji8)) 127)) (ji11))) 1)))),wrap64 ((ji8) + 1),0)))) else (if x18_2 > 0 then (if (rd l0 (ji8)) = 0 then (some (0,0,3)) else (some (Go.bits .xor .i64 (wrap64 ((Go.bits .or .u64 x7_2 (shl .u64 (IntKind.u64.wrap (Go.bits .and .u8 (rd l0 (ji8)) 127)) (ji11))) / 2)) (wrap64 (-(wrap64 (Go.bits .and .u64 (Go.bits .or .u64 x7_2 (shl .u64 (IntKind.u64.wrap (Go.bits .and .u8 (rd l0 (ji8)) 127)) (ji11))) 1)))),wrap64 ((ji8) + 1),0))) else (some (Go.bits .xor .i64 (wrap64 ((Go.bits .or .u64 x7_2 (shl .u64 (IntKind.u64.wrap (Go.bits .and .u8 (rd l0 (ji8)) 127)) (ji11))) / 2)) (wrap64 (-(wrap64 (Go.bits .and .u64 (Go.bits .or .u64 x7_2 (shl .u64 (IntKind.u64.wrap (Go.bits .and .u8 (rd l0 (ji8)) 127)) (ji11))) 1)))),wrap64 ((ji8) + 1),0))))) else (none)) = some (r1,r2,r3):=by first|(rw [hji11] at H;exact H)|(simp only [hji11] at H ⊢;exact H)
          have hji11w : (IntKind.i64.wrap (7 * x18_2)) = ji11:=(i64_w _).trans hji11
          by_cases c12 : 0 ≤ (ji11)
          ·
           rw [if_pos c12] at H
           have c12b0:=eq_true c12
           have c12b1 : decide (0 ≤ (ji11)) = true:=decide_eq_true c12
           clear c12
           obtain ⟨ji13,hji13⟩ : ∃ j_ : Int,(shl .u64 (IntKind.u64.wrap (Go.bits .and .u8 (rd l0 (ji8)) 127)) (ji11)) = j_:=⟨_,rfl⟩
           replace H : (if (rd l0 (ji8)) ≥ 128 then (codec_Int.l0 k2 l0 a1 (Go.bits .or .u64 x7_2 (ji13)) (wrap64 (x18_2 + 1))) else (if x18_2 = 9 then (if (rd l0 (ji8)) > 1 then (some (0,0,3)) else (if x18_2 > 0 then (if (rd l0 (ji8)) = 0 then (some (0,0,3)) else (some (Go.bits .xor .i64 (wrap64 ((Go.bits .or .u64 x7_2 (ji13)) / 2)) (wrap64 (-(wrap64 (Go.bits .and .u64 (Go.bits .or .u64 x7_2 (ji13)) 1)))),wrap64 ((ji8) + 1),0))) else (some (Go.bits .xor .i64 (wrap64 ((Go.bits .or .u64 x7_2 (ji13)) / 2)) (wrap64 (-(wrap64 (Go.bits .and .u64 (Go.bits .or .u64 x7_2 (ji13)) 1)))),wrap64 ((ji8) + 1),0)))) else (if x18_2 > 0 then (if (rd l0 (ji8)) = 0 then (some (0,0,3)) else (some (Go.bits .xor .i64 (wrap64 ((Go.bits .or .u64 x7_2 (ji13)) / 2)) (wrap64 (-(wrap64 (Go.bits .and .u64 (Go.bits .or .u64 x7_2 (ji13)) 1)))),wrap64 ((ji8) + 1),0))) else (some (Go.bits .xor .i64 (wrap64 ((Go.bits .or .u64 x7_2 (ji13)) / 2)) (wrap64 (-(wrap64 (Go.bits .and .u64 (Go.bits .or .u64 x7_2 (ji13)) 1)))),wrap64 ((ji8) + 1),0))))) = some (r1,r2,r3):=by first|(rw [hji13] at H;exact H)|(simp only [hji13] at H ⊢;exact H)
           have hji13_ : (IntKind.u64.wrap ((IntKind.u64.wrap (Go.bits .and .u8 (rd l0 (ji8)) 127)) * 2 ^ min (ji11).toNat 64)) = ji13:=hji13
           have hji13z : (ji11) ≤ 64 → (IntKind.u64.wrap ((IntKind.u64.wrap (Go.bits .and .u8 (rd l0 (ji8)) 127)) * 2 ^ (ji11).toNat)) = ji13:=shl_small hji13
           by_cases c14 : (rd l0 (ji8)) ≥ 128
           ·
            rw [if_pos c14] at H
            have c14b0 : decide (128 ≤ (rd l0 (ji8))) = true:=decide_eq_true c14
            clear c14
            have H':=A_ H
            clear H
            have p244 : 0 ≤ ((ji8) : Int):=of_decide_eq_true uq1
            have q244 : (ji8) < (l0.length : Int):=of_decide_eq_true uq1
            obtain ⟨ad244,e244,hx244_0⟩:=Kd.at_int HR0.out (ji8) p244 q244
            cases e244
            replace p244:=eq_true p244
            replace q244:=eq_true q244
            go_wp2
            go_roundg k2
            case measure=>have:=HJ2.out;have:=HK2.out;omega
            case rel=>exact ⟨(Go.bits .or .u64 x7_2 (ji13)),(wrap64 (x18_2 + 1)),(by first|rfl|(simp;done)|(simp only [← hji13] <;> (first|rfl|simp))|(simp [*];done)),uq3,H',⟨by have:=HJ2.out;have:=HK2.out;omega⟩,uq6⟩
           ·
            rw [if_neg c14] at H
            have c14b0 : decide (128 ≤ (rd l0 (ji8))) = false:=decide_eq_false c14
            clear c14
            by_cases c15 : x18_2 = 9
            ·
             rw [if_pos c15] at H
             have c15b0 : (x18_2 == 9) = true:=beq_iff_eq.mpr c15
             have c15b1 : (x18_2 != 9) = false:=bne_eq_false_iff_eq.mpr c15
             clear c15
             by_cases c16 : (rd l0 (ji8)) > 1
             ·
              rw [if_pos c16] at H
              have c16b0 : decide (1 < (rd l0 (ji8))) = true:=decide_eq_true c16
              clear c16
              simp only [Option.some.injEq,Prod.mk.injEq] at H
              obtain ⟨rfl,rfl,rfl⟩:=H
              have p244 : 0 ≤ ((ji8) : Int):=of_decide_eq_true uq1
              have q244 : (ji8) < (l0.length : Int):=of_decide_eq_true uq1
              obtain ⟨ad244,e244,hx244_0⟩:=Kd.at_int HR0.out (ji8) p244 q244
              cases e244
              replace p244:=eq_true p244
              replace q244:=eq_true q244
              go_wp2
              go_ret3
              exact ⟨by first|rfl|(simp;done)|(simp only [← hji8,← hji11,← hji13] <;> (first|rfl|simp))|(simp [*];done),uq6⟩
             ·
              rw [if_neg c16] at H
              have c16b0 : decide (1 < (rd l0 (ji8))) = false:=decide_eq_false c16
              clear c16
              by_cases c17 : x18_2 > 0
              ·
               rw [if_pos c17] at H
               have c17b0 : decide (0 < x18_2) = true:=decide_eq_true c17
               clear c17
               by_cases c18 : (rd l0 (ji8)) = 0
               ·
                rw [if_pos c18] at H
                have c18b0 : ((rd l0 (ji8)) == 0) = true:=beq_iff_eq.mpr c18
                have c18b1 : ((rd l0 (ji8)) != 0) = false:=bne_eq_false_iff_eq.mpr c18
                clear c18
                simp only [Option.some.injEq,Prod.mk.injEq] at H
                obtain ⟨rfl,rfl,rfl⟩:=H
                have p244 : 0 ≤ ((ji8) : Int):=of_decide_eq_true uq1
                have q244 : (ji8) < (l0.length : Int):=of_decide_eq_true uq1
                obtain ⟨ad244,e244,hx244_0⟩:=Kd.at_int HR0.out (ji8) p244 q244
                cases e244
                replace p244:=eq_true p244
                replace q244:=eq_true q244
                go_wp2
                go_ret3
                exact ⟨by first|rfl|(simp;done)|(simp only [← hji8,← hji11,← hji13] <;> (first|rfl|simp))|(simp [*];done),uq6⟩
               ·
                rw [if_neg c18] at H
                have c18b0 : ((rd l0 (ji8)) == 0) = false:=beq_eq_false_iff_ne.mpr c18
                have c18b1 : ((rd l0 (ji8)) != 0) = true:=bne_iff_ne.mpr c18
                simp only [Option.some.injEq,Prod.mk.injEq] at H
                obtain ⟨rfl,rfl,rfl⟩:=H
                have p244 : 0 ≤ ((ji8) : Int):=of_decide_eq_true uq1
                have q244 : (ji8) < (l0.length : Int):=of_decide_eq_true uq1
                obtain ⟨ad244,e244,hx244_0⟩:=Kd.at_int HR0.out (ji8) p244 q244
                cases e244
                replace p244:=eq_true p244
                replace q244:=eq_true q244
                go_wp2
                go_ret3
                exact ⟨by first|rfl|(simp;done)|(simp only [← hji8,← hji11,← hji13] <;> (first|rfl|simp))|(simp [*];done),uq6⟩
              ·
               rw [if_neg c17] at H
               have c17b0 : decide (0 < x18_2) = false:=decide_eq_false c17
               clear c17
               simp only [Option.some.injEq,Prod.mk.injEq] at H
               obtain ⟨rfl,rfl,rfl⟩:=H
               have p244 : 0 ≤ ((ji8) : Int):=of_decide_eq_true uq1
               have q244 : (ji8) < (l0.length : Int):=of_decide_eq_true uq1
               obtain ⟨ad244,e244,hx244_0⟩:=Kd.at_int HR0.out (ji8) p244 q244
               cases e244
               replace p244:=eq_true p244
               replace q244:=eq_true q244
               go_wp2
               go_ret3
               exact ⟨by first|rfl|(simp;done)|(simp only [← hji8,← hji11,← hji13] <;> (first|rfl|simp))|(simp [*];done),uq6⟩
            ·
             rw [if_neg c15] at H
             have c15b0 : (x18_2 == 9) = false:=beq_eq_false_iff_ne.mpr c15
             have c15b1 : (x18_2 != 9) = true:=bne_iff_ne.mpr c15
             by_cases c19 : x18_2 > 0
             ·
              rw [if_pos c19] at H
              have c19b0 : decide (0 < x18_2) = true:=decide_eq_true c19
              clear c19
              by_cases c20 : (rd l0 (ji8)) = 0
              ·
               rw [if_pos c20] at H
               have c20b0 : ((rd l0 (ji8)) == 0) = true:=beq_iff_eq.mpr c20
               have c20b1 : ((rd l0 (ji8)) != 0) = false:=bne_eq_false_iff_eq.mpr c20
               clear c20
               simp only [Option.some.injEq,Prod.mk.injEq] at H
               obtain ⟨rfl,rfl,rfl⟩:=H
               have p244 : 0 ≤ ((ji8) : Int):=of_decide_eq_true uq1
               have q244 : (ji8) < (l0.length : Int):=of_decide_eq_true uq1
               obtain ⟨ad244,e244,hx244_0⟩:=Kd.at_int HR0.out (ji8) p244 q244
               cases e244
               replace p244:=eq_true p244
               replace q244:=eq_true q244
               go_wp2
               go_ret3
               exact ⟨by first|rfl|(simp;done)|(simp only [← hji8,← hji11,← hji13] <;> (first|rfl|simp))|(simp [*];done),uq6⟩
              ·
               rw [if_neg c20] at H
               have c20b0 : ((rd l0 (ji8)) == 0) = false:=beq_eq_false_iff_ne.mpr c20
               have c20b1 : ((rd l0 (ji8)) != 0) = true:=bne_iff_ne.mpr c20
               simp only [Option.some.injEq,Prod.mk.injEq] at H
               obtain ⟨rfl,rfl,rfl⟩:=H
               have p244 : 0 ≤ ((ji8) : Int):=of_decide_eq_true uq1
               have q244 : (ji8) < (l0.length : Int):=of_decide_eq_true uq1
               obtain ⟨ad244,e244,hx244_0⟩:=Kd.at_int HR0.out (ji8) p244 q244
               cases e244
               replace p244:=eq_true p244
               replace q244:=eq_true q244
               go_wp2
               go_ret3
               exact ⟨by first|rfl|(simp;done)|(simp only [← hji8,← hji11,← hji13] <;> (first|rfl|simp))|(simp [*];done),uq6⟩
             ·
              rw [if_neg c19] at H
              have c19b0 : decide (0 < x18_2) = false:=decide_eq_false c19
              clear c19
              simp only [Option.some.injEq,Prod.mk.injEq] at H
              obtain ⟨rfl,rfl,rfl⟩:=H
              have p244 : 0 ≤ ((ji8) : Int):=of_decide_eq_true uq1
              have q244 : (ji8) < (l0.length : Int):=of_decide_eq_true uq1
              obtain ⟨ad244,e244,hx244_0⟩:=Kd.at_int HR0.out (ji8) p244 q244
              cases e244
              replace p244:=eq_true p244
              replace q244:=eq_true q244
              go_wp2
              go_ret3
              exact ⟨by first|rfl|(simp;done)|(simp only [← hji8,← hji11,← hji13] <;> (first|rfl|simp))|(simp [*];done),uq6⟩
          ·
           rw [if_neg c12] at H
           exact absurd H (by simp)
         ·
          rw [if_neg c10] at H
          exact absurd H (by simp)
        ·
         rw [if_neg c9] at H
         exact absurd H (by simp)
      ·
       rw [if_neg c6] at H
       have c6b0 : decide (x18_2 < 10) = false:=decide_eq_false c6
       clear c6
       simp only [Option.some.injEq,Prod.mk.injEq] at H
       obtain ⟨rfl,rfl,rfl⟩:=H
       go_wp2
       go_ret3
       exact ⟨by first|rfl|(simp;done)|(simp [*];done),uq6⟩

end Go.Proofs.Ytdnhfofmfpgmmaa.PSegmentShort
