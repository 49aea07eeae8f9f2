/- This file proves, function by function, what the Go functions that one law uses compute; most of it was printed by a program (wip/tools of this session, over the kit's print). -/
import Derived.Test.YtdnhfofmfpgmmaaPSegmentBackx0
import Derived.Test.YtdnhfofmfpgmmaaPSegmentBackx4
namespace Go.Proofs.Ytdnhfofmfpgmmaa.PSegmentBack
open Go.RowKit Go.Proofs.YtdnhfofmfpgmmaaW.PrintWords Go.Proofs.YtdnhfofmfpgmmaaW.PrintLast Go.Proofs.YtdnhfofmfpgmmaaW.PrintMore
attribute [local go_sem] max2_int min2_int max_two min_two max_three min_three max_four min_four   -- for this text's walks alone
set_option linter.unusedVariables false
set_option linter.unusedSimpArgs false

/-! ### codec_Int: function 71 -/
mutual
def codec_Int.j0 : Nat → List Int → Int → Bool → Option (Int × Int × Int)
 | 0,_,_,_=>none
 | k + 1,x0,x1,x17=>if x17 = true then (some (0,0,1)) else (codec_Int.l0 k x0 x1 0 0)
def codec_Int.l0 : Nat → List Int → Int → Int → Int → Option (Int × Int × Int)
 | 0,_,_,_,_=>none
 | k + 1,x0,x1,x7,x18=>if x18 < 10 then (if (wrap64 (x1 + x18)) ≥ (x0.length : Int) then (some (0,0,2)) else (if 0 ≤ (wrap64 (x1 + x18)) then (if (wrap64 (x1 + x18)) < (x0.length : Int) then (if 0 ≤ (wrap64 (7 * x18)) then (if (rd x0 (wrap64 (x1 + x18))) ≥ 128 then (codec_Int.l0 k x0 x1 (Go.bits .or .u64 x7 (shl .u64 (IntKind.u64.wrap (Go.bits .and .u8 (rd x0 (wrap64 (x1 + x18))) 127)) (wrap64 (7 * x18)))) (wrap64 (x18 + 1))) else (if x18 = 9 then (if (rd x0 (wrap64 (x1 + x18))) > 1 then (some (0,0,3)) else (if x18 > 0 then (if (rd x0 (wrap64 (x1 + x18))) = 0 then (some (0,0,3)) else (some (Go.bits .xor .i64 (wrap64 ((Go.bits .or .u64 x7 (shl .u64 (IntKind.u64.wrap (Go.bits .and .u8 (rd x0 (wrap64 (x1 + x18))) 127)) (wrap64 (7 * x18)))) / 2)) (wrap64 (-(wrap64 (Go.bits .and .u64 (Go.bits .or .u64 x7 (shl .u64 (IntKind.u64.wrap (Go.bits .and .u8 (rd x0 (wrap64 (x1 + x18))) 127)) (wrap64 (7 * x18)))) 1)))),wrap64 ((wrap64 (x1 + x18)) + 1),0))) else (some (Go.bits .xor .i64 (wrap64 ((Go.bits .or .u64 x7 (shl .u64 (IntKind.u64.wrap (Go.bits .and .u8 (rd x0 (wrap64 (x1 + x18))) 127)) (wrap64 (7 * x18)))) / 2)) (wrap64 (-(wrap64 (Go.bits .and .u64 (Go.bits .or .u64 x7 (shl .u64 (IntKind.u64.wrap (Go.bits .and .u8 (rd x0 (wrap64 (x1 + x18))) 127)) (wrap64 (7 * x18)))) 1)))),wrap64 ((wrap64 (x1 + x18)) + 1),0)))) else (if x18 > 0 then (if (rd x0 (wrap64 (x1 + x18))) = 0 then (some (0,0,3)) else (some (Go.bits .xor .i64 (wrap64 ((Go.bits .or .u64 x7 (shl .u64 (IntKind.u64.wrap (Go.bits .and .u8 (rd x0 (wrap64 (x1 + x18))) 127)) (wrap64 (7 * x18)))) / 2)) (wrap64 (-(wrap64 (Go.bits .and .u64 (Go.bits .or .u64 x7 (shl .u64 (IntKind.u64.wrap (Go.bits .and .u8 (rd x0 (wrap64 (x1 + x18))) 127)) (wrap64 (7 * x18)))) 1)))),wrap64 ((wrap64 (x1 + x18)) + 1),0))) else (some (Go.bits .xor .i64 (wrap64 ((Go.bits .or .u64 x7 (shl .u64 (IntKind.u64.wrap (Go.bits .and .u8 (rd x0 (wrap64 (x1 + x18))) 127)) (wrap64 (7 * x18)))) / 2)) (wrap64 (-(wrap64 (Go.bits .and .u64 (Go.bits .or .u64 x7 (shl .u64 (IntKind.u64.wrap (Go.bits .and .u8 (rd x0 (wrap64 (x1 + x18))) 127)) (wrap64 (7 * x18)))) 1)))),wrap64 ((wrap64 (x1 + x18)) + 1),0))))) else (none)) else (none)) else (none))) else (some (0,0,3))
end
def codec_Int.f (k : Nat) (l0 : List Int) (a1 : Int) : Option (Int × Int × Int):=if a1 < 0 then (codec_Int.j0 k l0 a1 true) else (codec_Int.j0 k l0 a1 (decide (a1 > (l0.length : Int))))
theorem codec_Int.mono_l : ∀ k,(∀ y0 y1 y2,LeO (codec_Int.j0 k y0 y1 y2) (codec_Int.j0 (k + 1) y0 y1 y2))∧(∀ y0 y1 y2 y3,LeO (codec_Int.l0 k y0 y1 y2 y3) (codec_Int.l0 (k + 1) y0 y1 y2 y3))
 | 0=>⟨fun _ _ _ r h=>by simp [codec_Int.j0] at h,fun _ _ _ _ r h=>by simp [codec_Int.l0] at h⟩
 | k + 1=>by
  obtain ⟨ih0,ih1⟩:=codec_Int.mono_l k
  refine ⟨?_,?_⟩
  ·
   intro y0 y1 y2
   unfold codec_Int.j0
   repeat' first|(with_reducible first|apply ih0|apply ih1|exact lz|refine LeO.ite ?_ ?_|refine LeO.bind ?_ fun _=>?_)
  ·
   intro y0 y1 y2 y3
   unfold codec_Int.l0
   repeat' first|(with_reducible first|apply ih0|apply ih1|exact lz|refine LeO.ite ?_ ?_|refine LeO.bind ?_ fun _=>?_)
theorem codec_Int.mono : ∀ a0 a1 k,LeO (codec_Int.f k a0 a1) (codec_Int.f (k + 1) a0 a1):=by
 intro a0 a1 k
 obtain ⟨ih0,ih1⟩:=codec_Int.mono_l k
 unfold codec_Int.f
 repeat' first|(with_reducible first|apply ih0|apply ih1|exact lz|refine LeO.ite ?_ ?_|refine LeO.bind ?_ fun _=>?_)
set_option maxHeartbeats 8000000 in
set_option maxRecDepth 100000 in
theorem codec_Int.calls (k : Nat) (A0 : Option Addr) (c0 : Nat) (l0 : List Int) (a1 : Int) (r1 : Int) (r2 : Int) (r3 : Int) (w : World) (hr0 : Kd.C (Kd.int .u8) w A0 l0.length l0) (hc0 : l0.length ≤ c0) (h : codec_Int.f k l0 a1 = some (r1,r2,r3)) :
  Calls Try.prog 71 #[.slice A0 l0.length c0,.int .i64 a1] w fun e w'=>e = .returned (.tuple #[.int .i64 r1,.int .i64 r2,.int .i64 r3])∧Drawn0 w w':=by
 have HR0:=A_ hr0
 have HC0:=A_ hc0
 clear hr0 hc0
 have H : (if a1 < 0 then (codec_Int.j0 k l0 a1 true) else (codec_Int.j0 k l0 a1 (decide (a1 > (l0.length : Int))))) = some (r1,r2,r3):=h
 clear h
 have HC3:=A_ H
 clear H
 go_enter Try.func71,Try.ntmps71
 go_upto_region 1 with (fail)
 go_cut [17] (fun v17 wc=>∃ (kq : Nat) (x17_2 : Bool),v17 = .bool x17_2∧Aside0 (codec_Int.j0 kq l0 a1 x17_2 = some (r1,r2,r3))∧Aside0 (kq ≤ k)∧Drawn0 w wc)
 case first =>
  have H:=HC3.out
  clear HC3
  by_cases c4 : a1 < 0
  ·
   rw [if_pos c4] at H
   have c4b0 : decide (a1 < 0) = true:=decide_eq_true c4
   clear c4
   (first|rw [c4b0]|(simp only [i64_w,i32_w];rw [c4b0])|skip)
   have H':=A_ H
   clear H
   go_wp2
   go_meet
   case rel=>exact ⟨_,(true),uq2,H',⟨by first|omega|exact Nat.le_refl _⟩,uq7⟩
  ·
   rw [if_neg c4] at H
   have c4b0 : decide (a1 < 0) = false:=decide_eq_false c4
   clear c4
   (first|rw [c4b0]|(simp only [i64_w,i32_w];rw [c4b0])|skip)
   have H':=A_ H
   clear H
   go_wp2
   go_meet
   case rel=>exact ⟨_,(decide (a1 > (l0.length : Int))),uq2,H',⟨by first|omega|exact Nat.le_refl _⟩,uq7⟩
 case rest =>
  clear HC3
  try clear p2
  try clear c4
  try clear c4b0
  obtain ⟨kq,x17_2,rfl,HA,HJ2,⟨mc2,rfl⟩⟩:=hcut
  cases kq with
  | zero=>exact absurd HA.out (by simp [codec_Int.j0])
  | succ kj2 =>
   have H:=HA.out
   clear HA
   simp only [codec_Int.j0] at H
   by_cases c5 : x17_2 = true
   ·
    subst c5
    have H1 : (some (0,0,1)) = some (r1,r2,r3):=by rw [if_pos rfl] at H;exact H
    clear H
    have H:=H1
    clear H1
    simp only [Option.some.injEq,Prod.mk.injEq] at H
    obtain ⟨rfl,rfl,rfl⟩:=H
    go_wp2
    go_ret3
    exact ⟨by first|rfl|(simp;done)|(simp [*];done),uq7⟩
   ·
    replace c5:=Bool.eq_false_iff.mpr c5
    subst c5
    have H1 : (codec_Int.l0 kj2 l0 a1 0 0) = some (r1,r2,r3):=by rw [if_neg (show ¬ (false = true) by decide)] at H;exact H
    clear H
    have H:=H1
    clear H1
    have H':=A_ H
    clear H
    go_wp2
    go_loopg [7,18] kj2 (fun kq v7 v18 w'=>∃ (x7_2 : Int) (x18_2 : Int),v7 = .int .u64 x7_2∧v18 = .int .i64 x18_2∧Aside0 (codec_Int.l0 kq l0 a1 x7_2 x18_2 = some (r1,r2,r3))∧Aside0 (kq ≤ kj2)∧Drawn0 w w')
    case atStart=>exact ⟨(0),(0),uq2,uq2,H',⟨Nat.le_refl _⟩,uq7⟩
    case round =>
     clear H'
     try clear c2
     try clear p2
     try clear c4
     try clear c4b0
     try clear c5
     try clear p2
     obtain ⟨x7_2,x18_2,rfl,rfl,HA,HK2,⟨m2,rfl⟩⟩:=hrel
     cases gk with
     | zero=>exact absurd HA.out (by simp [codec_Int.l0])
     | succ k2 =>
      have H:=HA.out
      clear HA
      simp only [codec_Int.l0] at H
      by_cases c6 : x18_2 < 10
      ·
       rw [if_pos c6] at H
       have c6b0 : decide (x18_2 < 10) = true:=decide_eq_true c6
       clear c6
       by_cases c7 : (wrap64 (a1 + x18_2)) ≥ (l0.length : Int)
       ·
        rw [if_pos c7] at H
        have c7b0 : decide ((l0.length : Int) ≤ (wrap64 (a1 + x18_2))) = true:=decide_eq_true c7
        clear c7
        simp only [Option.some.injEq,Prod.mk.injEq] at H
        obtain ⟨rfl,rfl,rfl⟩:=H
        go_wp2
        go_ret3
        exact ⟨by first|rfl|(simp;done)|(simp [*];done),uq7⟩
       ·
        rw [if_neg c7] at H
        have c7b0 : decide ((l0.length : Int) ≤ (wrap64 (a1 + x18_2))) = false:=decide_eq_false c7
        clear c7
        obtain ⟨ji8,hji8⟩ : ∃ j_ : Int,(wrap64 (a1 + x18_2)) = j_:=⟨_,rfl⟩
        replace H : (if 0 ≤ (ji8) then (if (ji8) < (l0.length : Int) then (if 0 ≤ (wrap64 (7 * x18_2)) then (if (rd l0 (ji8)) ≥ 128 then (codec_Int.l0 k2 l0 a1 (Go.bits .or .u64 x7_2 (shl .u64 (IntKind.u64.wrap (Go.bits .and .u8 (rd l0 (ji8)) 127)) (wrap64 (7 * x18_2)))) (wrap64 (x18_2 + 1))) else (if x18_2 = 9 then (if (rd l0 (ji8)) > 1 then (some (0,0,3)) else (if x18_2 > 0 then (if (rd l0 (ji8)) = 0 then (some (0,0,3)) else (some (Go.bits .xor .i64 (wrap64 ((Go.bits .or .u64 x7_2 (shl .u64 (IntKind.u64.wrap (Go.bits .and .u8 (rd l0 (ji8)) 127)) (wrap64 (7 * x18_2)))) / 2)) (wrap64 (-(wrap64 (Go.bits .and .u64 (Go.bits .or .u64 x7_2 (shl .u64 (IntKind.u64.wrap (Go.bits .and .u8 (rd l0 (ji8)) 127)) (wrap64 (7 * x18_2)))) 1)))),wrap64 ((ji8) + 1),0))) else (some (Go.bits .xor .i64 (wrap64 ((Go.bits .or .u64 x7_2 (shl .u64 (IntKind.u64.wrap (Go.bits .and .u8 (rd l0 (ji8)) 127)) (wrap64 (7 * x18_2)))) / 2)) (wrap64 (-(wrap64 (Go.bits .and .u64 (Go.bits .or .u64 x7_2 (shl .u64 (IntKind.u64.wrap (Go.bits .and .u8 (rd l0 (ji8)) 127)) (wrap64 (7 * x18_2)))) 1)))),wrap64 ((ji8) + 1),0)))) else (if x18_2 > 0 then (if (rd l0 (ji8)) = 0 then (some (0,0,3)) else (some (Go.bits .xor .i64 (wrap64 ((Go.bits .or .u64 x7_2 (shl .u64 (IntKind.u64.wrap (Go.bits .and .u8 (rd l0 (ji8)) 127)) (wrap64 (7 * x18_2)))) / 2)) (wrap64 (-(wrap64 (Go.bits .and .u64 (Go.bits .or .u64 x7_2 (shl .u64 (IntKind.u64.wrap (Go.bits .and .u8 (rd l0 (ji8)) 127)) (wrap64 (7 * x18_2)))) 1)))),wrap64 ((ji8) + 1),0))) else (some (Go.bits .xor .i64 (wrap64 ((Go.bits .or .u64 x7_2 (shl .u64 (IntKind.u64.wrap (Go.bits .and .u8 (rd l0 (ji8)) 127)) (wrap64 (7 * x18_2)))) / 2)) (wrap64 (-(wrap64 (Go.bits .and .u64 (Go.bits .or .u64 x7_2 (shl .u64 (IntKind.u64.wrap (Go.bits .and .u8 (rd l0 (ji8)) 127)) (wrap64 (7 * x18_2)))) 1)))),wrap64 ((ji8) + 1),0))))) else (none)) else (none)) else (none)) = some (r1,r2,r3):=by first|(rw [hji8] at H;exact H)|(simp only [hji8] at H ⊢;exact H)
        (try rw [hji8] at c7b0)
        have hji8w : (IntKind.i64.wrap (a1 + x18_2)) = ji8:=(i64_w _).trans hji8
        by_cases c9 : 0 ≤ (ji8)
        ·
         rw [if_pos c9] at H
         have c9b0 : decide (0 ≤ (ji8)) = true:=decide_eq_true c9
         clear c9
         by_cases c10 : (ji8) < (l0.length : Int)
         ·
          rw [if_pos c10] at H
          have c10b0 : decide ((ji8) < (l0.length : Int)) = true:=decide_eq_true c10
          clear c10
          obtain ⟨ji11,hji11⟩ : ∃ j_ : Int,(wrap64 (7 * x18_2)) = j_:=⟨_,rfl⟩
          replace H : (if 0 ≤ (ji11) then (if (rd l0 (ji8)) ≥ 128 then (codec_Int.l0 k2 l0 a1 (Go.bits .or .u64 x7_2 (shl .u64 (IntKind.u64.wrap (Go.bits .and .u8 (rd l0 (ji8)) 127)) (ji11))) (wrap64 (x18_2 + 1))) else (if x18_2 = 9 then (if (rd l0 (ji8)) > 1 then (some (0,0,3)) else (if x18_2 > 0 then (if (rd l0 (ji8)) = 0 then (some (0,0,3)) else (some (Go.bits .xor .i64 (wrap64 ((Go.bits .or .u64 x7_2 (shl .u64 (IntKind.u64.wrap (Go.bits .and .u8 (rd l0 (ji8)) 127)) (ji11))) / 2)) (wrap64 (-(wrap64 (Go.bits .and .u64 (Go.bits .or .u64 x7_2 (shl .u64 (IntKind.u64.wrap (Go.bits .and .u8 (rd l0 (ji8)) 127)) (ji11))) 1)))),wrap64 ((ji8) + 1),0))) else (some (Go.bits .xor .i64 (wrap64 ((Go.bits .or .u64 x7_2 (shl .u64 (IntKind.u64.wrap (Go.bits .and .u8 (rd l0 (ji8)) 127)) (ji11))) / 2)) (wrap64 (-(wrap64 (Go.bits .and .u64 (Go.bits .or .u64 x7_2 (shl .u64 (IntKind.u64.wrap (Go.bits .and .u8 (rd l0 (ji8)) 127)) (ji11))) 1)))),wrap64 ((ji8) + 1),0)))) else (if x18_2 > 0 then (if (rd l0 (ji8)) = 0 then (some (0,0,3)) else (some (Go.bits .xor .i64 (wrap64 ((Go.bits .or .u64 x7_2 (shl .u64 (IntKind.u64.wrap (Go.bits .and .u8 (rd l0 (ji8)) 127)) (ji11))) / 2)) (wrap64 (-(wrap64 (Go.bits .and .u64 (Go.bits .or .u64 x7_2 (shl .u64 (IntKind.u64.wrap (Go.bits .and .u8 (rd l0 (ji8)) 127)) (ji11))) 1)))),wrap64 ((ji8) + 1),0))) else (some (Go.bits .xor .i64 (wrap64 ((Go.bits .or .u64 x7_2 (shl .u64 (IntKind.u64.wrap (Go.bits .and .u8 (rd l0 (ji8)) 127)) (ji11))) / 2)) (wrap64 (-(wrap64 (Go.bits .and .u64 (Go.bits .or .u64 x7_2 (shl .u64 (IntKind.u64.wrap (Go.bits .and .u8 (rd l0 (ji8)) 127)) (ji11))) 1)))),wrap64 ((ji8) + 1),0))))) else (none)) = some (r1,r2,r3):=by first|(rw [hji11] at H;exact H)|(simp only [hji11] at H ⊢;exact H)
          have hji11w : (IntKind.i64.wrap (7 * x18_2)) = ji11:=(i64_w _).trans hji11
          by_cases c12 : 0 ≤ (ji11)
          ·
           rw [if_pos c12] at H
           have c12b0:=eq_true c12
           have c12b1 : decide (0 ≤ (ji11)) = true:=decide_eq_true c12
           clear c12
           obtain ⟨ji13,hji13⟩ : ∃ j_ : Int,(shl .u64 (IntKind.u64.wrap (Go.bits .and .u8 (rd l0 (ji8)) 127)) (ji11)) = j_:=⟨_,rfl⟩
           replace H : (if (rd l0 (ji8)) ≥ 128 then (codec_Int.l0 k2 l0 a1 (Go.bits .or .u64 x7_2 (ji13)) (wrap64 (x18_2 + 1))) else (if x18_2 = 9 then (if (rd l0 (ji8)) > 1 then (some (0,0,3)) else (if x18_2 > 0 then (if (rd l0 (ji8)) = 0 then (some (0,0,3)) else (some (Go.bits .xor .i64 (wrap64 ((Go.bits .or .u64 x7_2 (ji13)) / 2)) (wrap64 (-(wrap64 (Go.bits .and .u64 (Go.bits .or .u64 x7_2 (ji13)) 1)))),wrap64 ((ji8) + 1),0))) else (some (Go.bits .xor .i64 (wrap64 ((Go.bits .or .u64 x7_2 (ji13)) / 2)) (wrap64 (-(wrap64 (Go.bits .and .u64 (Go.bits .or .u64 x7_2 (ji13)) 1)))),wrap64 ((ji8) + 1),0)))) else (if x18_2 > 0 then (if (rd l0 (ji8)) = 0 then (some (0,0,3)) else (some (Go.bits .xor .i64 (wrap64 ((Go.bits .or .u64 x7_2 (ji13)) / 2)) (wrap64 (-(wrap64 (Go.bits .and .u64 (Go.bits .or .u64 x7_2 (ji13)) 1)))),wrap64 ((ji8) + 1),0))) else (some (Go.bits .xor .i64 (wrap64 ((Go.bits .or .u64 x7_2 (ji13)) / 2)) (wrap64 (-(wrap64 (Go.bits .and .u64 (Go.bits .or .u64 x7_2 (ji13)) 1)))),wrap64 ((ji8) + 1),0))))) = some (r1,r2,r3):=by first|(rw [hji13] at H;exact H)|(simp only [hji13] at H ⊢;exact H)
           have hji13_ : (IntKind.u64.wrap ((IntKind.u64.wrap (Go.bits .and .u8 (rd l0 (ji8)) 127)) * 2 ^ min (ji11).toNat 64)) = ji13:=hji13
           have hji13z : (ji11) ≤ 64 → (IntKind.u64.wrap ((IntKind.u64.wrap (Go.bits .and .u8 (rd l0 (ji8)) 127)) * 2 ^ (ji11).toNat)) = ji13:=shl_small hji13
           by_cases c14 : (rd l0 (ji8)) ≥ 128
           ·
            rw [if_pos c14] at H
            have c14b0 : decide (128 ≤ (rd l0 (ji8))) = true:=decide_eq_true c14
            clear c14
            have H':=A_ H
            clear H
            have p228 : 0 ≤ ((ji8) : Int):=of_decide_eq_true uq1
            have q228 : (ji8) < (l0.length : Int):=of_decide_eq_true uq1
            obtain ⟨ad228,e228,hx228_0⟩:=Kd.at_int HR0.out (ji8) p228 q228
            cases e228
            replace p228:=eq_true p228
            replace q228:=eq_true q228
            go_wp2
            go_roundg k2
            case measure=>have:=HJ2.out;have:=HK2.out;omega
            case rel=>exact ⟨(Go.bits .or .u64 x7_2 (ji13)),(wrap64 (x18_2 + 1)),(by first|rfl|(simp;done)|(simp only [← hji13] <;> (first|rfl|simp))|(simp [*];done)),uq2,H',⟨by have:=HJ2.out;have:=HK2.out;omega⟩,uq7⟩
           ·
            rw [if_neg c14] at H
            have c14b0 : decide (128 ≤ (rd l0 (ji8))) = false:=decide_eq_false c14
            clear c14
            by_cases c15 : x18_2 = 9
            ·
             rw [if_pos c15] at H
             have c15b0 : (x18_2 == 9) = true:=beq_iff_eq.mpr c15
             have c15b1 : (x18_2 != 9) = false:=bne_eq_false_iff_eq.mpr c15
             clear c15
             by_cases c16 : (rd l0 (ji8)) > 1
             ·
              rw [if_pos c16] at H
              have c16b0 : decide (1 < (rd l0 (ji8))) = true:=decide_eq_true c16
              clear c16
              simp only [Option.some.injEq,Prod.mk.injEq] at H
              obtain ⟨rfl,rfl,rfl⟩:=H
              have p228 : 0 ≤ ((ji8) : Int):=of_decide_eq_true uq1
              have q228 : (ji8) < (l0.length : Int):=of_decide_eq_true uq1
              obtain ⟨ad228,e228,hx228_0⟩:=Kd.at_int HR0.out (ji8) p228 q228
              cases e228
              replace p228:=eq_true p228
              replace q228:=eq_true q228
              go_wp2
              go_ret3
              exact ⟨by first|rfl|(simp;done)|(simp only [← hji8,← hji11,← hji13] <;> (first|rfl|simp))|(simp [*];done),uq7⟩
             ·
              rw [if_neg c16] at H
              have c16b0 : decide (1 < (rd l0 (ji8))) = false:=decide_eq_false c16
              clear c16
              by_cases c17 : x18_2 > 0
              ·
               rw [if_pos c17] at H
               have c17b0 : decide (0 < x18_2) = true:=decide_eq_true c17
               clear c17
               by_cases c18 : (rd l0 (ji8)) = 0
               ·
                rw [if_pos c18] at H
                have c18b0 : ((rd l0 (ji8)) == 0) = true:=beq_iff_eq.mpr c18
                have c18b1 : ((rd l0 (ji8)) != 0) = false:=bne_eq_false_iff_eq.mpr c18
                clear c18
                simp only [Option.some.injEq,Prod.mk.injEq] at H
                obtain ⟨rfl,rfl,rfl⟩:=H
                have p228 : 0 ≤ ((ji8) : Int):=of_decide_eq_true uq1
                have q228 : (ji8) < (l0.length : Int):=of_decide_eq_true uq1
                obtain ⟨ad228,e228,hx228_0⟩:=Kd.at_int HR0.out (ji8) p228 q228
                cases e228
                replace p228:=eq_true p228
                replace q228:=eq_true q228
                go_wp2
                go_ret3
                exact ⟨by first|rfl|(simp;done)|(simp only [← hji8,← hji11,← hji13] <;> (first|rfl|simp))|(simp [*];done),uq7⟩
               ·
                rw [if_neg c18] at H
                have c18b0 : ((rd l0 (ji8)) == 0) = false:=beq_eq_false_iff_ne.mpr c18
                have c18b1 : ((rd l0 (ji8)) != 0) = true:=bne_iff_ne.mpr c18
                simp only [Option.some.injEq,Prod.mk.injEq] at H
                obtain ⟨rfl,rfl,rfl⟩:=H
                have p228 : 0 ≤ ((ji8) : Int):=of_decide_eq_true uq1
                have q228 : (ji8) < (l0.length : Int):=of_decide_eq_true uq1
                obtain ⟨ad228,e228,hx228_0⟩:=Kd.at_int HR0.out (ji8) p228 q228
                cases e228
                replace p228:=eq_true p228
                replace q228:=eq_true q228
                go_wp2
                go_ret3
                exact ⟨by first|rfl|(simp;done)|(simp only [← hji8,← hji11,← hji13] <;> (first|rfl|simp))|(simp [*];done),uq7⟩
              ·
               rw [if_neg c17] at H
               have c17b0 : decide (0 < x18_2) = false:=decide_eq_false c17
               clear c17
               simp only [Option.some.injEq,Prod.mk.injEq] at H
               obtain ⟨rfl,rfl,rfl⟩:=H
               have p228 : 0 ≤ ((ji8) : Int):=of_decide_eq_true uq1
               have q228 : (ji8) < (l0.length : Int):=of_decide_eq_true uq1
               obtain ⟨ad228,e228,hx228_0⟩:=Kd.at_int HR0.out (ji8) p228 q228
               cases e228
               replace p228:=eq_true p228
               replace q228:=eq_true q228
               go_wp2
               go_ret3
               exact ⟨by first|rfl|(simp;done)|(simp only [← hji8,← hji11,← hji13] <;> (first|rfl|simp))|(simp [*];done),uq7⟩
            ·
             rw [if_neg c15] at H
             have c15b0 : (x18_2 == 9) = false:=beq_eq_false_iff_ne.mpr c15
             have c15b1 : (x18_2 != 9) = true:=bne_iff_ne.mpr c15
             by_cases c19 : x18_2 > 0
             ·
              rw [if_pos c19] at H
              have c19b0 : decide (0 < x18_2) = true:=decide_eq_true c19
              clear c19
              by_cases c20 : (rd l0 (ji8)) = 0
              ·
               rw [if_pos c20] at H
               have c20b0 : ((rd l0 (ji8)) == 0) = true:=beq_iff_eq.mpr c20
               have c20b1 : ((rd l0 (ji8)) != 0) = false:=bne_eq_false_iff_eq.mpr c20
               clear c20
               simp only [Option.some.injEq,Prod.mk.injEq] at H
               obtain ⟨rfl,rfl,rfl⟩:=H
               have p228 : 0 ≤ ((ji8) : Int):=of_decide_eq_true uq1
               have q228 : (ji8) < (l0.length : Int):=of_decide_eq_true uq1
               obtain ⟨ad228,e228,hx228_0⟩:=Kd.at_int HR0.out (ji8) p228 q228
               cases e228
               replace p228:=eq_true p228
               replace q228:=eq_true q228
               go_wp2
               go_ret3
               exact ⟨by first|rfl|(simp;done)|(simp only [← hji8,← hji11,← hji13] <;> (first|rfl|simp))|(simp [*];done),uq7⟩
              ·
               rw [if_neg c20] at H
               have c20b0 : ((rd l0 (ji8)) == 0) = false:=beq_eq_false_iff_ne.mpr c20
               have c20b1 : ((rd l0 (ji8)) != 0) = true:=bne_iff_ne.mpr c20
               simp only [Option.some.injEq,Prod.mk.injEq] at H
               obtain ⟨rfl,rfl,rfl⟩:=H
               have p228 : 0 ≤ ((ji8) : Int):=of_decide_eq_true uq1
               have q228 : (ji8) < (l0.length : Int):=of_decide_eq_true uq1
               obtain ⟨ad228,e228,hx228_0⟩:=Kd.at_int HR0.out (ji8) p228 q228
               cases e228
               replace p228:=eq_true p228
               replace q228:=eq_true q228
               go_wp2
               go_ret3
               exact ⟨by first|rfl|(simp;done)|(simp only [← hji8,← hji11,← hji13] <;> (first|rfl|simp))|(simp [*];done),uq7⟩
             ·
              rw [if_neg c19] at H
              have c19b0 : decide (0 < x18_2) = false:=decide_eq_false c19
              clear c19
              simp only [Option.some.injEq,Prod.mk.injEq] at H
              obtain ⟨rfl,rfl,rfl⟩:=H
              have p228 : 0 ≤ ((ji8) : Int):=of_decide_eq_true uq1
              have q228 : (ji8) < (l0.length : Int):=of_decide_eq_true uq1
              obtain ⟨ad228,e228,hx228_0⟩:=Kd.at_int HR0.out (ji8) p228 q228
              cases e228
              replace p228:=eq_true p228
              replace q228:=eq_true q228
              go_wp2
              go_ret3
              exact ⟨by first|rfl|(simp;done)|(simp only [← hji8,← hji11,← hji13] <;> (first|rfl|simp))|(simp [*];done),uq7⟩
          ·
           rw [if_neg c12] at H
           exact absurd H (by simp)
         ·
          rw [if_neg c10] at H
          exact absurd H (by simp)
        ·
         rw [if_neg c9] at H
         exact absurd H (by simp)
      ·
       rw [if_neg c6] at H
       have c6b0 : decide (x18_2 < 10) = false:=decide_eq_false c6
       clear c6
       simp only [Option.some.injEq,Prod.mk.injEq] at H
       obtain ⟨rfl,rfl,rfl⟩:=H
       go_wp2
       go_ret3
       exact ⟨by first|rfl|(simp;done)|(simp [*];done),uq7⟩

/-! ### segment_head: function 65 -/
def segment_head.rd4 (b : List Int) (k : Nat) : Nat → Int → List Int → Option (Option (List Int × Int))
 | 0,at_,acc=>some (some (acc,at_))
 | n + 1,at_,acc=>(codec_Int.f k b at_).bind fun r=>if r.2.2 = 0 then segment_head.rd4 b k n r.2.1 (acc ++ [r.1]) else some none
def segment_head.bad (b0 n0 n1 n2 : Int) : Prop:=2 < b0 ∨ n0 < 1 ∨ 64 < n0 ∨ n1 < -1000 ∨ 1000 < n1 ∨ n2 < 0 ∨ 2000 < n2
instance (b0 n0 n1 n2 : Int) : Decidable (segment_head.bad b0 n0 n1 n2) := by unfold segment_head.bad; infer_instance
def segment_head.fin (b : List Int) : Option (List Int × Int) → Option (Int × Int × Int × Int × Int × Int × Bool)
 | none=>some (0,0,0,0,0,0,false)
 | some (ns,at_)=>if 0 < b.length then (if segment_head.bad (wrap64 (rd b 0)) (rd ns 0) (rd ns 1) (rd ns 2) then some (0,0,0,0,0,0,false) else some (wrap64 (rd b 0),rd ns 0,rd ns 1,wrap64 (rd ns 1 + rd ns 2),rd ns 3,at_,true)) else none
def segment_head.f (k : Nat) (l0 : List Int) : Option (Int × Int × Int × Int × Int × Int × Bool):=(segment_head.rd4 l0 k 4 1 []).bind (segment_head.fin l0)
theorem segment_head.mono_r (b : List Int) (k : Nat) : ∀ n a acc,LeO (segment_head.rd4 b k n a acc) (segment_head.rd4 b (k + 1) n a acc)
 | 0,a,acc=>LeO.refl _
 | n + 1,a,acc=>by
  unfold segment_head.rd4
  exact LeO.bind (codec_Int.mono _ _ _) fun r=>LeO.ite (segment_head.mono_r b k n _ _) (LeO.refl _)
theorem segment_head.mono : ∀ a0 k,LeO (segment_head.f k a0) (segment_head.f (k + 1) a0):=fun a0 k=>LeO.bind (segment_head.mono_r a0 k 4 1 []) fun _=>LeO.refl _
def segment_head.cs (acc : List Int) (g : Nat) : Array Value:=((acc ++ List.replicate g 0).map (fun n=>Value.int .i64 n)).toArray
theorem segment_head.ld {w : World} {g : Nat} {acc : List Int} {n : Nat} (h : w.heap[g]? = some (.cells (segment_head.cs acc n) 111 (0,0))) (i : Nat) (x : Int) (hx : (acc ++ List.replicate n 0)[i]? = some x) : w.cell? ⟨g,i,none⟩ = some (.int .i64 x) :=
 (blk_cell h i).trans (by unfold segment_head.cs;rw [List.getElem?_toArray,List.getElem?_map,hx];rfl)
theorem segment_head.put {w : World} {g : Nat} {acc : List Int} {n : Nat} (h : w.heap[g]? = some (.cells (segment_head.cs acc (n + 1)) 111 (0,0))) (x : Int) : (w.setCell ⟨g,acc.length,none⟩ (.int .i64 x)).heap[g]? = some (.cells (segment_head.cs (acc ++ [x]) n) 111 (0,0)):=by
 have:=blk_set h acc.length (.int .i64 x)
 rw [this]
 unfold segment_head.cs
 congr 2
 rw [List.setIfInBounds_toArray]
 congr 1
 rw [← List.map_set,List.set_append_right _ _ (Nat.le_refl _),Nat.sub_self,List.replicate_succ,List.set_cons_zero]
 simp
theorem segment_head.be {w W : World} {g : Nat} {a b c d e : Value} (h : Below w.heap.size w W) (hg : w.heap.size ≤ g) : Below w.heap.size w (((((W.setCell ⟨g,0,none⟩ a).setCell ⟨g,1,none⟩ b).setCell ⟨g,2,none⟩ c).setCell ⟨g,3,none⟩ d).setCell ⟨g,4,none⟩ e) :=
 ((((h.setCell (p:=⟨g,0,none⟩) hg a).setCell (p:=⟨g,1,none⟩) hg b).setCell (p:=⟨g,2,none⟩) hg c).setCell (p:=⟨g,3,none⟩) hg d).setCell (p:=⟨g,4,none⟩) hg e
/-- The empty head lies in a box. -/
def segment_head.Z (w W : World) : Prop:=W.heap[w.heap.size]? = some (.cells #[.int .i64 0,.int .i64 0,.int .i64 0,.int .i64 0,.int .i64 0] 27 (0,0))
theorem segment_head.zld {w W : World} (h : segment_head.Z w W) : W.cell? ⟨w.heap.size,0,none⟩ = some (.int .i64 0)∧W.cell? ⟨w.heap.size,1,none⟩ = some (.int .i64 0)∧W.cell? ⟨w.heap.size,2,none⟩ = some (.int .i64 0)∧W.cell? ⟨w.heap.size,3,none⟩ = some (.int .i64 0)∧W.cell? ⟨w.heap.size,4,none⟩ = some (.int .i64 0) ∧
  W.frozen? ⟨w.heap.size,0,none⟩ = false∧W.frozen? ⟨w.heap.size,1,none⟩ = false∧W.frozen? ⟨w.heap.size,2,none⟩ = false∧W.frozen? ⟨w.heap.size,3,none⟩ = false∧W.frozen? ⟨w.heap.size,4,none⟩ = false :=
 ⟨(blk_cell h 0).trans rfl,(blk_cell h 1).trans rfl,(blk_cell h 2).trans rfl,(blk_cell h 3).trans rfl,(blk_cell h 4).trans rfl,blk_frozen h 0,blk_frozen h 1,blk_frozen h 2,blk_frozen h 3,blk_frozen h 4⟩
set_option maxHeartbeats 8000000 in
set_option maxRecDepth 100000 in
theorem segment_head.calls (k : Nat) (A0 : Option Addr) (c0 : Nat) (l0 : List Int) (r1 : Int) (r2 : Int) (r3 : Int) (r4 : Int) (r5 : Int) (r6 : Int) (r7 : Bool) (w : World) (hr0 : Kd.C (Kd.int .u8) w A0 l0.length l0) (hc0 : l0.length ≤ c0) (h : segment_head.f k l0 = some (r1,r2,r3,r4,r5,r6,r7)) :
  Calls Try.prog 65 #[.slice A0 l0.length c0] w fun e w'=>e = .returned (.tuple #[.agg #[.int .i64 r1,.int .i64 r2,.int .i64 r3,.int .i64 r4,.int .i64 r5],.int .i64 r6,.bool r7])∧Below w.heap.size w w':=by
 have HR0:=A_ hr0
 have HC0:=A_ hc0
 clear hr0 hc0
 unfold segment_head.f at h
 have HH:=A_ h
 clear h
 go_enter Try.func65,Try.ntmps65
 go_upto_region 3 with (fail)
 have HZ:=A_ (show segment_head.Z w _ from blk_alloc (heap_alloc_new w (Obj.cells #[.int .i64 0,.int .i64 0,.int .i64 0,.int .i64 0,.int .i64 0] 27)) (Obj.cells #[.int .i64 0,.int .i64 0,.int .i64 0,.int .i64 0] 111))
 have HN:=A_ (show ((w.alloc (Obj.cells #[.int .i64 0,.int .i64 0,.int .i64 0,.int .i64 0,.int .i64 0] 27)).alloc (Obj.cells #[.int .i64 0,.int .i64 0,.int .i64 0,.int .i64 0] 111)).heap[w.heap.size + 1]? = some (.cells (segment_head.cs [] 4) 111 (0,0)) from by
  have:=heap_alloc_new (w.alloc (Obj.cells #[.int .i64 0,.int .i64 0,.int .i64 0,.int .i64 0,.int .i64 0] 27)) (Obj.cells #[.int .i64 0,.int .i64 0,.int .i64 0,.int .i64 0] 111)
  rw [World.size_alloc] at this
  exact this)
 have HB:=A_ (show Below w.heap.size w ((w.alloc (Obj.cells #[.int .i64 0,.int .i64 0,.int .i64 0,.int .i64 0,.int .i64 0] 27)).alloc (Obj.cells #[.int .i64 0,.int .i64 0,.int .i64 0,.int .i64 0] 111)) from ((Below.refl _ _).alloc (Nat.le_refl _) _).alloc (by simp) _)
 generalize (w.alloc (Obj.cells #[.int .i64 0,.int .i64 0,.int .i64 0,.int .i64 0,.int .i64 0] 27)).alloc (Obj.cells #[.int .i64 0,.int .i64 0,.int .i64 0,.int .i64 0] 111) = W0 at HZ HN HB ⊢
 go_wp2_with fail
 go_loopg [5,9] 4 (fun gk s5 s9 wx=>∃ (i : Nat) (z p : Int) (acc : List Int),s5 = .int .i64 p∧s9 = .int .i64 z∧Aside0 (z = (i : Int))∧Aside0 (i + gk = 4)∧Aside0 (acc.length = i)∧Aside0 ((segment_head.rd4 l0 k gk p acc).bind (segment_head.fin l0) = some (r1,r2,r3,r4,r5,r6,r7))∧Aside0 (wx.heap[w.heap.size + 1]? = some (.cells (segment_head.cs acc gk) 111 (0,0)))∧Aside0 (segment_head.Z w wx)∧Aside0 (Below w.heap.size w wx))
 case atStart=>exact ⟨0,0,1,[],rfl,rfl,⟨rfl⟩,⟨rfl⟩,⟨rfl⟩,HH,HN,HZ,HB⟩
 case round =>
  clear HH HN HZ HB
  obtain ⟨i,z,p,acc,rfl,rfl,hz,hi,ha,HH,HN,HZ,HB⟩:=hrel
  cases gk with
  | zero =>
   have H:=HH.out
   clear HH
   simp only [segment_head.rd4,Option.bind_some,segment_head.fin] at H
   by_cases hl : 0 < l0.length
   case neg=>rw [if_neg hl] at H;cases H
   rw [if_pos hl] at H
   have hacc : acc.length = 4:=by have:=hi.out;have:=ha.out;omega
   have hd4 : decide (z < 4) = false:=decide_eq_false uq22
   obtain ⟨A,eA,hcA⟩:=Kd.at_int (cl HR0.out HB.out) 0 (by omega) (by omega)
   obtain ⟨A',eA',hcA'⟩:=Kd.at_int HR0.out 0 (by omega) (by omega)
   cases eA
   cases eA'
   have hAb : A.block < w.heap.size:=World.block_lt_of_cell? _ _ hcA'
   have hc0 : wr.cell? A = some (.int .u8 (rd l0 0)):=by cases A;exact hcA
   have hg (j : Nat) (hj : j < 4) : (acc ++ List.replicate 0 0)[j]? = some (rd acc (j : Int)):=by
    rw [List.replicate_zero,List.append_nil]
    unfold rd
    rw [Int.toNat_natCast,List.getD_eq_getElem?_getD,List.getElem?_eq_getElem (by omega),Option.getD_some]
   have x0:=segment_head.ld HN.out 0 _ (hg 0 (by omega))
   have x1:=segment_head.ld HN.out 1 _ (hg 1 (by omega))
   have x2:=segment_head.ld HN.out 2 _ (hg 2 (by omega))
   have x3:=segment_head.ld HN.out 3 _ (hg 3 (by omega))
   obtain ⟨z0,z1,z2,z3,z4,f0,f1,f2,f3,f4⟩:=segment_head.zld HZ.out
   clear hg hcA hcA' hi ha hz
   obtain ⟨kk,hkk⟩ : ∃ kk,IntKind.i64.wrap (rd l0 0) = kk:=⟨_,rfl⟩
   rw [show wrap64 (rd l0 0) = kk from (i64_w _).symm.trans hkk] at H
   obtain ⟨a0,ha0⟩ : ∃ x,rd acc 0 = x:=⟨_,rfl⟩
   obtain ⟨a1,ha1⟩ : ∃ x,rd acc 1 = x:=⟨_,rfl⟩
   obtain ⟨a2,ha2⟩ : ∃ x,rd acc 2 = x:=⟨_,rfl⟩
   obtain ⟨a3,ha3⟩ : ∃ x,rd acc 3 = x:=⟨_,rfl⟩
   rw [ha0,ha1,ha2,ha3] at H
   rw [show rd acc ((0 : Nat) : Int) = a0 from ha0] at x0
   rw [show rd acc ((1 : Nat) : Int) = a1 from ha1] at x1
   rw [show rd acc ((2 : Nat) : Int) = a2 from ha2] at x2
   rw [show rd acc ((3 : Nat) : Int) = a3 from ha3] at x3
   clear ha0 ha1 ha2 ha3 hacc
   obtain ⟨d1,ed1⟩ : ∃ d,decide (2 < kk) = d:=⟨_,rfl⟩
   obtain ⟨d2,ed2⟩ : ∃ d,decide (a0 < 1) = d:=⟨_,rfl⟩
   obtain ⟨d3,ed3⟩ : ∃ d,decide (64 < a0) = d:=⟨_,rfl⟩
   obtain ⟨d4,ed4⟩ : ∃ d,decide (a1 < -1000) = d:=⟨_,rfl⟩
   obtain ⟨d5,ed5⟩ : ∃ d,decide (1000 < a1) = d:=⟨_,rfl⟩
   obtain ⟨d6,ed6⟩ : ∃ d,decide (a2 < 0) = d:=⟨_,rfl⟩
   obtain ⟨d7,ed7⟩ : ∃ d,decide (2000 < a2) = d:=⟨_,rfl⟩
   cases d1 with
   | true =>
    have hb : segment_head.bad kk a0 a1 a2:=by unfold segment_head.bad;have:=of_decide_eq_true ed1;omega
    rw [if_pos hb] at H
    simp only [Option.some.injEq,Prod.mk.injEq] at H
    obtain ⟨rfl,rfl,rfl,rfl,rfl,rfl,rfl⟩:=H
    clear hb
    go_wp2_with fail
    exact bodyPost_ret (results_ctt rfl _ _ w.heap.size 27 _ (0,0) _ rfl (blk_set (blk_set (blk_set (blk_set (blk_set HZ.out 0 _) 1 _) 2 _) 3 _) 4 _) Try.underlying27 rfl uq3) rfl ⟨rfl,segment_head.be HB.out (Nat.le_refl _)⟩
   | false =>
   cases d2 with
   | true =>
    have hb : segment_head.bad kk a0 a1 a2:=by unfold segment_head.bad;have:=of_decide_eq_true ed2;omega
    rw [if_pos hb] at H
    simp only [Option.some.injEq,Prod.mk.injEq] at H
    obtain ⟨rfl,rfl,rfl,rfl,rfl,rfl,rfl⟩:=H
    clear hb
    go_wp2_with fail
    exact bodyPost_ret (results_ctt rfl _ _ w.heap.size 27 _ (0,0) _ rfl (blk_set (blk_set (blk_set (blk_set (blk_set HZ.out 0 _) 1 _) 2 _) 3 _) 4 _) Try.underlying27 rfl uq3) rfl ⟨rfl,segment_head.be HB.out (Nat.le_refl _)⟩
   | false =>
   cases d3 with
   | true =>
    have hb : segment_head.bad kk a0 a1 a2:=by unfold segment_head.bad;have:=of_decide_eq_true ed3;omega
    rw [if_pos hb] at H
    simp only [Option.some.injEq,Prod.mk.injEq] at H
    obtain ⟨rfl,rfl,rfl,rfl,rfl,rfl,rfl⟩:=H
    clear hb
    go_wp2_with fail
    exact bodyPost_ret (results_ctt rfl _ _ w.heap.size 27 _ (0,0) _ rfl (blk_set (blk_set (blk_set (blk_set (blk_set HZ.out 0 _) 1 _) 2 _) 3 _) 4 _) Try.underlying27 rfl uq3) rfl ⟨rfl,segment_head.be HB.out (Nat.le_refl _)⟩
   | false =>
   cases d4 with
   | true =>
    have hb : segment_head.bad kk a0 a1 a2:=by unfold segment_head.bad;have:=of_decide_eq_true ed4;omega
    rw [if_pos hb] at H
    simp only [Option.some.injEq,Prod.mk.injEq] at H
    obtain ⟨rfl,rfl,rfl,rfl,rfl,rfl,rfl⟩:=H
    clear hb
    go_wp2_with fail
    exact bodyPost_ret (results_ctt rfl _ _ w.heap.size 27 _ (0,0) _ rfl (blk_set (blk_set (blk_set (blk_set (blk_set HZ.out 0 _) 1 _) 2 _) 3 _) 4 _) Try.underlying27 rfl uq3) rfl ⟨rfl,segment_head.be HB.out (Nat.le_refl _)⟩
   | false =>
   cases d5 with
   | true =>
    have hb : segment_head.bad kk a0 a1 a2:=by unfold segment_head.bad;have:=of_decide_eq_true ed5;omega
    rw [if_pos hb] at H
    simp only [Option.some.injEq,Prod.mk.injEq] at H
    obtain ⟨rfl,rfl,rfl,rfl,rfl,rfl,rfl⟩:=H
    clear hb
    go_wp2_with fail
    exact bodyPost_ret (results_ctt rfl _ _ w.heap.size 27 _ (0,0) _ rfl (blk_set (blk_set (blk_set (blk_set (blk_set HZ.out 0 _) 1 _) 2 _) 3 _) 4 _) Try.underlying27 rfl uq3) rfl ⟨rfl,segment_head.be HB.out (Nat.le_refl _)⟩
   | false =>
   cases d6 with
   | true =>
    have hb : segment_head.bad kk a0 a1 a2:=by unfold segment_head.bad;have:=of_decide_eq_true ed6;omega
    rw [if_pos hb] at H
    simp only [Option.some.injEq,Prod.mk.injEq] at H
    obtain ⟨rfl,rfl,rfl,rfl,rfl,rfl,rfl⟩:=H
    clear hb
    go_wp2_with fail
    exact bodyPost_ret (results_ctt rfl _ _ w.heap.size 27 _ (0,0) _ rfl (blk_set (blk_set (blk_set (blk_set (blk_set HZ.out 0 _) 1 _) 2 _) 3 _) 4 _) Try.underlying27 rfl uq3) rfl ⟨rfl,segment_head.be HB.out (Nat.le_refl _)⟩
   | false =>
   cases d7 with
   | true =>
    have hb : segment_head.bad kk a0 a1 a2:=by unfold segment_head.bad;have:=of_decide_eq_true ed7;omega
    rw [if_pos hb] at H
    simp only [Option.some.injEq,Prod.mk.injEq] at H
    obtain ⟨rfl,rfl,rfl,rfl,rfl,rfl,rfl⟩:=H
    clear hb
    go_wp2_with fail
    exact bodyPost_ret (results_ctt rfl _ _ w.heap.size 27 _ (0,0) _ rfl (blk_set (blk_set (blk_set (blk_set (blk_set HZ.out 0 _) 1 _) 2 _) 3 _) 4 _) Try.underlying27 rfl uq3) rfl ⟨rfl,segment_head.be HB.out (Nat.le_refl _)⟩
   | false =>
   have hb : ¬ segment_head.bad kk a0 a1 a2:=by unfold segment_head.bad;have:=of_decide_eq_false ed1;have:=of_decide_eq_false ed2;have:=of_decide_eq_false ed3;have:=of_decide_eq_false ed4;have:=of_decide_eq_false ed5;have:=of_decide_eq_false ed6;have:=of_decide_eq_false ed7;omega
   rw [if_neg hb] at H
   simp only [Option.some.injEq,Prod.mk.injEq] at H
   obtain ⟨rfl,rfl,rfl,rfl,rfl,rfl,rfl⟩:=H
   clear hb
   go_upto_region 13 with (fail)
   have hK : ∀ (W : World) (a b c d e : Value),(W.cell? A = some (.int .u8 (rd l0 0))∧W.cell? ⟨w.heap.size + 1,0,none⟩ = some (.int .i64 a0)∧W.cell? ⟨w.heap.size + 1,1,none⟩ = some (.int .i64 a1)∧W.cell? ⟨w.heap.size + 1,2,none⟩ = some (.int .i64 a2)∧W.cell? ⟨w.heap.size + 1,3,none⟩ = some (.int .i64 a3)) →
     ((((((W.setCell ⟨w.heap.size,0,none⟩ a).setCell ⟨w.heap.size,1,none⟩ b).setCell ⟨w.heap.size,2,none⟩ c).setCell ⟨w.heap.size,3,none⟩ d).setCell ⟨w.heap.size,4,none⟩ e).cell? A = some (.int .u8 (rd l0 0)) ∧
     (((((W.setCell ⟨w.heap.size,0,none⟩ a).setCell ⟨w.heap.size,1,none⟩ b).setCell ⟨w.heap.size,2,none⟩ c).setCell ⟨w.heap.size,3,none⟩ d).setCell ⟨w.heap.size,4,none⟩ e).cell? ⟨w.heap.size + 1,0,none⟩ = some (.int .i64 a0) ∧
     (((((W.setCell ⟨w.heap.size,0,none⟩ a).setCell ⟨w.heap.size,1,none⟩ b).setCell ⟨w.heap.size,2,none⟩ c).setCell ⟨w.heap.size,3,none⟩ d).setCell ⟨w.heap.size,4,none⟩ e).cell? ⟨w.heap.size + 1,1,none⟩ = some (.int .i64 a1) ∧
     (((((W.setCell ⟨w.heap.size,0,none⟩ a).setCell ⟨w.heap.size,1,none⟩ b).setCell ⟨w.heap.size,2,none⟩ c).setCell ⟨w.heap.size,3,none⟩ d).setCell ⟨w.heap.size,4,none⟩ e).cell? ⟨w.heap.size + 1,2,none⟩ = some (.int .i64 a2) ∧
     (((((W.setCell ⟨w.heap.size,0,none⟩ a).setCell ⟨w.heap.size,1,none⟩ b).setCell ⟨w.heap.size,2,none⟩ c).setCell ⟨w.heap.size,3,none⟩ d).setCell ⟨w.heap.size,4,none⟩ e).cell? ⟨w.heap.size + 1,3,none⟩ = some (.int .i64 a3)):=by
    intro W a b c d e h
    have far : ∀ q : Addr,q.block≠w.heap.size → (((((W.setCell ⟨w.heap.size,0,none⟩ a).setCell ⟨w.heap.size,1,none⟩ b).setCell ⟨w.heap.size,2,none⟩ c).setCell ⟨w.heap.size,3,none⟩ d).setCell ⟨w.heap.size,4,none⟩ e).cell? q = W.cell? q:=fun q hq =>
     (XMea.cell_far _ ⟨w.heap.size,4,none⟩ e hq).trans ((XMea.cell_far _ ⟨w.heap.size,3,none⟩ d hq).trans ((XMea.cell_far _ ⟨w.heap.size,2,none⟩ c hq).trans ((XMea.cell_far _ ⟨w.heap.size,1,none⟩ b hq).trans (XMea.cell_far _ ⟨w.heap.size,0,none⟩ a hq))))
    have hn : w.heap.size + 1≠w.heap.size:=by omega
    exact ⟨(far _ (by omega)).trans h.1,(far _ hn).trans h.2.1,(far _ hn).trans h.2.2.1,(far _ hn).trans h.2.2.2.1,(far _ hn).trans h.2.2.2.2⟩
   have HK:=A_ hK
   clear hK
   have hS : (fun W : World=>W.cell? A = some (.int .u8 (rd l0 0))∧W.cell? ⟨w.heap.size + 1,0,none⟩ = some (.int .i64 a0)∧W.cell? ⟨w.heap.size + 1,1,none⟩ = some (.int .i64 a1)∧W.cell? ⟨w.heap.size + 1,2,none⟩ = some (.int .i64 a2)∧W.cell? ⟨w.heap.size + 1,3,none⟩ = some (.int .i64 a3)) wr.drew:=⟨hc0,x0,x1,x2,x3⟩
   have HZ1:=A_ (show segment_head.Z w wr.drew from HZ.out)
   have HB1:=A_ (below_drew HB.out)
   clear ed1 ed2 ed3 ed4 ed5 ed6 ed7 hc0 x0 x1 x2 x3 z0 z1 z2 z3 z4 f0 f1 f2 f3 f4
   refine start_ (n:=20) (S:=fun W : World=>W.cell? A = some (.int .u8 (rd l0 0))∧W.cell? ⟨w.heap.size + 1,0,none⟩ = some (.int .i64 a0)∧W.cell? ⟨w.heap.size + 1,1,none⟩ = some (.int .i64 a1)∧W.cell? ⟨w.heap.size + 1,2,none⟩ = some (.int .i64 a2)∧W.cell? ⟨w.heap.size + 1,3,none⟩ = some (.int .i64 a3)) (ds:=[]) #[false,false,false,false,false,false,false,false,false,false,false,false,false,false,false,false,false,false,false,false] uq3 rfl rfl hS (fun hHeld=>?_)
   generalize wr.drew = w1 at HZ1 HB1 hHeld hS ⊢
   obtain ⟨z0,z1,z2,z3,z4,f0,f1,f2,f3,f4⟩:=segment_head.zld HZ1.out
   have hS17:=fun a b c d e=>HK.out w1 a b c d e hS
   have p1 : ((0 : Int) < (l0.length : Int)) = True:=eq_true (by omega)
   refine pk (i:=0) (N:=some 61) (v:=?_) (a':=?_) #[true,false,false,false,false,false,false,false,false,false,false,false,false,false,false,false,false,false,false,false] ?_ ?_ ?_
   rotate_left
   ·
    (intro w';go_simp;with_reducible rfl)
   rotate_left
   ·
    (simp only [Act.put,sa,sb,sc,i64_w,i32_w];rfl)
   refine pk (i:=1) (N:=some 62) (v:=?_) (a':=?_) #[true,true,false,false,false,false,false,false,false,false,false,false,false,false,false,false,false,false,false,false] ?_ ?_ ?_
   rotate_left
   ·
    (intro w';go_simp;with_reducible rfl)
   rotate_left
   ·
    (simp only [Act.put,sa,sb,sc,i64_w,i32_w];rfl)
   refine lk (i:=2) (N:=some 63) (v:=?_) (a':=?_) #[true,true,true,false,false,false,false,false,false,false,false,false,false,false,false,false,false,false,false,false] ?_ hS ?_ ?_
   rotate_left
   ·
    (intro w' s0_;obtain ⟨y0,y1,y2,y3,y4⟩:=s0_;go_simp;with_reducible rfl)
   rotate_left
   ·
    (simp only [Act.put,sa,sb,sc,i64_w,i32_w];rfl)
   refine pk (i:=3) (N:=some 64) (v:=?_) (a':=?_) #[true,true,true,true,false,false,false,false,false,false,false,false,false,false,false,false,false,false,false,false] ?_ ?_ ?_
   rotate_left
   ·
    (intro w';go_simp;with_reducible rfl)
   rotate_left
   ·
    (simp only [Act.put,sa,sb,sc,i64_w,i32_w];rfl)
   refine pk (i:=4) (N:=some 65) (v:=?_) (a':=?_) #[true,true,true,true,true,false,false,false,false,false,false,false,false,false,false,false,false,false,false,false] ?_ ?_ ?_
   rotate_left
   ·
    (intro w';go_simp;with_reducible rfl)
   rotate_left
   ·
    (simp only [Act.put,sa,sb,sc,i64_w,i32_w];rfl)
   refine lk (i:=5) (N:=some 66) (v:=?_) (a':=?_) #[true,true,true,true,true,true,false,false,false,false,false,false,false,false,false,false,false,false,false,false] ?_ hS ?_ ?_
   rotate_left
   ·
    (intro w' s0_;obtain ⟨y0,y1,y2,y3,y4⟩:=s0_;go_simp;with_reducible rfl)
   rotate_left
   ·
    (simp only [Act.put,sa,sb,sc,i64_w,i32_w];rfl)
   refine pk (i:=6) (N:=some 67) (v:=?_) (a':=?_) #[true,true,true,true,true,true,true,false,false,false,false,false,false,false,false,false,false,false,false,false] ?_ ?_ ?_
   rotate_left
   ·
    (intro w';go_simp;with_reducible rfl)
   rotate_left
   ·
    (simp only [Act.put,sa,sb,sc,i64_w,i32_w];rfl)
   refine lk (i:=7) (N:=some 68) (v:=?_) (a':=?_) #[true,true,true,true,true,true,true,true,false,false,false,false,false,false,false,false,false,false,false,false] ?_ hS ?_ ?_
   rotate_left
   ·
    (intro w' s0_;obtain ⟨y0,y1,y2,y3,y4⟩:=s0_;go_simp;with_reducible rfl)
   rotate_left
   ·
    (simp only [Act.put,sa,sb,sc,i64_w,i32_w];rfl)
   refine pk (i:=8) (N:=some 69) (v:=?_) (a':=?_) #[true,true,true,true,true,true,true,true,true,false,false,false,false,false,false,false,false,false,false,false] ?_ ?_ ?_
   rotate_left
   ·
    (intro w';go_simp;with_reducible rfl)
   rotate_left
   ·
    (simp only [Act.put,sa,sb,sc,i64_w,i32_w];rfl)
   refine lk (i:=9) (N:=some 70) (v:=?_) (a':=?_) #[true,true,true,true,true,true,true,true,true,true,false,false,false,false,false,false,false,false,false,false] ?_ hS ?_ ?_
   rotate_left
   ·
    (intro w' s0_;obtain ⟨y0,y1,y2,y3,y4⟩:=s0_;go_simp;with_reducible rfl)
   rotate_left
   ·
    (simp only [Act.put,sa,sb,sc,i64_w,i32_w];rfl)
   refine pk (i:=10) (N:=some 71) (v:=?_) (a':=?_) #[true,true,true,true,true,true,true,true,true,true,true,false,false,false,false,false,false,false,false,false] ?_ ?_ ?_
   rotate_left
   ·
    (intro w';go_simp;with_reducible rfl)
   rotate_left
   ·
    (simp only [Act.put,sa,sb,sc,i64_w,i32_w];rfl)
   refine lk (i:=11) (N:=some 72) (v:=?_) (a':=?_) #[true,true,true,true,true,true,true,true,true,true,true,true,false,false,false,false,false,false,false,false] ?_ hS ?_ ?_
   rotate_left
   ·
    (intro w' s0_;obtain ⟨y0,y1,y2,y3,y4⟩:=s0_;go_simp;with_reducible rfl)
   rotate_left
   ·
    (simp only [Act.put,sa,sb,sc,i64_w,i32_w];rfl)
   refine pk (i:=12) (N:=some 73) (v:=?_) (a':=?_) #[true,true,true,true,true,true,true,true,true,true,true,true,true,false,false,false,false,false,false,false] ?_ ?_ ?_
   rotate_left
   ·
    (intro w';go_simp;with_reducible rfl)
   rotate_left
   ·
    (simp only [Act.put,sa,sb,sc,i64_w,i32_w];rfl)
   refine pk (i:=13) (N:=some 74) (v:=?_) (a':=?_) #[true,true,true,true,true,true,true,true,true,true,true,true,true,true,false,false,false,false,false,false] ?_ ?_ ?_
   rotate_left
   ·
    (intro w';go_simp;with_reducible rfl)
   rotate_left
   ·
    (simp only [Act.put,sa,sb,sc,i64_w,i32_w];rfl)
   refine lk (i:=14) (N:=some 75) (v:=?_) (a':=?_) #[true,true,true,true,true,true,true,true,true,true,true,true,true,true,true,false,false,false,false,false] ?_ hS ?_ ?_
   rotate_left
   ·
    (intro w' s0_;obtain ⟨y0,y1,y2,y3,y4⟩:=s0_;go_simp;with_reducible rfl)
   rotate_left
   ·
    (simp only [Act.put,sa,sb,sc,i64_w,i32_w];rfl)
   refine pk (i:=15) (N:=some 76) (v:=?_) (a':=?_) #[true,true,true,true,true,true,true,true,true,true,true,true,true,true,true,true,false,false,false,false] ?_ ?_ ?_
   rotate_left
   ·
    (intro w';go_simp;with_reducible rfl)
   rotate_left
   ·
    (simp only [Act.put,sa,sb,sc,i64_w,i32_w];rfl)
   refine pk (i:=16) (N:=some 77) (v:=?_) (a':=?_) #[true,true,true,true,true,true,true,true,true,true,true,true,true,true,true,true,true,false,false,false] ?_ ?_ ?_
   rotate_left
   ·
    (intro w';go_simp;with_reducible rfl)
   rotate_left
   ·
    (simp only [Act.put,sa,sb,sc,i64_w,i32_w];rfl)
   refine sk (i:=17) (w1:=?_) #[true,true,true,true,true,true,true,true,true,true,true,true,true,true,true,true,true,true,false,false] ?_ ?_ ?_
   rotate_left
   ·
    (first|(go_simp;done)|(go_simp;rfl))
   ·
    exact hS17 _ _ _ _ _
   refine pk (i:=18) (N:=some 3) (v:=?_) (a':=?_) #[true,true,true,true,true,true,true,true,true,true,true,true,true,true,true,true,true,true,true,false] ?_ ?_ ?_
   rotate_left
   ·
    (intro w';go_simp;with_reducible rfl)
   rotate_left
   ·
    (simp only [Act.put,sa,sb,sc,i64_w,i32_w];rfl)
   refine pk (i:=19) (N:=some 4) (v:=?_) (a':=?_) #[true,true,true,true,true,true,true,true,true,true,true,true,true,true,true,true,true,true,true,true] ?_ ?_ ?_
   rotate_left
   ·
    (intro w';go_simp;with_reducible rfl)
   rotate_left
   ·
    (simp only [Act.put,sa,sb,sc,i64_w,i32_w];rfl)
   refine done_ uq3 ?_
   go_wp2_with fail
   exact bodyPost_ret (results_ctt rfl _ _ w.heap.size 27 _ (0,0) _ rfl (blk_set (blk_set (blk_set (blk_set (blk_set HZ1.out 0 _) 1 _) 2 _) 3 _) 4 _) Try.underlying27 rfl uq3) rfl ⟨rfl,segment_head.be HB1.out (Nat.le_refl _)⟩
  | succ gk =>
   have H:=HH.out
   clear HH
   simp only [segment_head.rd4] at H
   cases hq : codec_Int.f k l0 p with
   | none=>rw [hq] at H;cases H
   | some r =>
   obtain ⟨v1,v2,e1⟩:=r
   rw [hq] at H
   simp only [Option.bind_some] at H
   have d4 : decide (z < 4) = true:=decide_eq_true uq22
   have HQ:=A_ hq
   clear hq
   have hn0 : (0 ≤ z) = True:=eq_true (by rw [hz.out];omega)
   have hn4 : (z < 4) = True:=eq_true uq22
   have hzn : z.toNat = acc.length:=by have:=hz.out;have:=ha.out;omega
   have HZN:=A_ hzn
   have hx0 : wr.cell? ⟨w.heap.size + 1,z.toNat,none⟩ = some (.int .i64 0):=segment_head.ld HN.out _ 0 (by rw [hzn,List.getElem?_append_right (Nat.le_refl _),Nat.sub_self];rfl)
   have hf0 : wr.frozen? ⟨w.heap.size + 1,z.toNat,none⟩ = false:=blk_frozen HN.out _
   clear hzn
   go_upto_region 8 with (go_at_call 71;refine (codec_Int.calls k A0 c0 l0 p v1 v2 e1 _ (cl HR0.out HB.out) HC0.out HQ.out).mono ?_;rintro e w1 ⟨rfl,⟨nd,rfl⟩⟩)
   have HN1:=A_ (show ((wr.drewN nd).setCell ⟨w.heap.size + 1,z.toNat,none⟩ (.int .i64 v1)).heap[w.heap.size + 1]? = some (.cells (segment_head.cs (acc ++ [v1]) gk) 111 (0,0)) from by rw [HZN.out];exact segment_head.put (w:=wr.drewN nd) HN.out v1)
   have HZ1:=A_ (show segment_head.Z w ((wr.drewN nd).setCell ⟨w.heap.size + 1,z.toNat,none⟩ (.int .i64 v1)) from (Below.heap_setCell (wr.drewN nd) ⟨w.heap.size + 1,z.toNat,none⟩ (.int .i64 v1) w.heap.size (by simp)).trans HZ.out)
   have HB1:=A_ (show Below w.heap.size w ((wr.drewN nd).setCell ⟨w.heap.size + 1,z.toNat,none⟩ (.int .i64 v1)) from (pw_below_drewN HB.out nd).setCell (p:=⟨w.heap.size + 1,z.toNat,none⟩) (by simp) _)
   clear hx0 hf0 HN HZ HB hn0 hn4 d4
   generalize (wr.drewN nd).setCell ⟨w.heap.size + 1,z.toNat,none⟩ (.int .i64 v1) = W1 at HN1 HZ1 HB1 ⊢
   by_cases h1 : e1 = 0
   case pos =>
    rw [if_pos h1] at H
    have hn : (e1 != 0) = false:=bne_eq_false_iff_eq.mpr h1
    have HH:=A_ H
    have hz1 : Aside0 (wrap64 (z + 1) = ((i + 1 : Nat) : Int)):=⟨by have:=hz.out;have:=hi.out;unfold wrap64;omega⟩
    clear H h1
    go_wp2_with fail
    go_roundg gk
    case measure=>omega
    case rel=>exact ⟨i + 1,wrap64 (z + 1),v2,acc ++ [v1],by first|rfl|simp,by first|rfl|simp,hz1,⟨by have:=hi.out;omega⟩,⟨by simp [ha.out]⟩,HH,HN1,HZ1,HB1⟩
   case neg =>
    rw [if_neg h1] at H
    have hn : (e1 != 0) = true:=bne_iff_ne.mpr h1
    simp only [Option.bind_some,segment_head.fin,Option.some.injEq,Prod.mk.injEq] at H
    obtain ⟨rfl,rfl,rfl,rfl,rfl,rfl,rfl⟩:=H
    obtain ⟨z0,z1,z2,z3,z4,f0,f1,f2,f3,f4⟩:=segment_head.zld HZ1.out
    clear h1
    go_wp2_with fail
    exact bodyPost_ret (results_ctt rfl _ _ w.heap.size 27 _ (0,0) _ rfl (blk_set (blk_set (blk_set (blk_set (blk_set HZ1.out 0 _) 1 _) 2 _) 3 _) 4 _) Try.underlying27 rfl uq3) rfl ⟨rfl,segment_head.be HB1.out (Nat.le_refl _)⟩

/-! ### bits_Mul32: function 74 -/
def bits_Mul32.f (a0 : Int) (a1 : Int) : Option (Int × Int):=some (((IntKind.u64.wrap ((IntKind.u64.wrap (a0)) * (IntKind.u64.wrap (a1)))) / 4294967296) % 4294967296,(IntKind.u64.wrap ((IntKind.u64.wrap (a0)) * (IntKind.u64.wrap (a1)))) % 4294967296)
set_option maxHeartbeats 8000000 in
set_option maxRecDepth 100000 in
theorem bits_Mul32.calls (a0 : Int) (a1 : Int) (r1 : Int) (r2 : Int) (w : World) (h : bits_Mul32.f a0 a1 = some (r1,r2)) :
  Calls Try.prog 74 #[.int .u32 a0,.int .u32 a1] w fun e w'=>e = .returned (.tuple #[.int .u32 r1,.int .u32 r2])∧Drawn0 w w':=by
 have H : (some (((IntKind.u64.wrap ((IntKind.u64.wrap (a0)) * (IntKind.u64.wrap (a1)))) / 4294967296) % 4294967296,(IntKind.u64.wrap ((IntKind.u64.wrap (a0)) * (IntKind.u64.wrap (a1)))) % 4294967296)) = some (r1,r2):=h
 clear h
 simp only [Option.some.injEq,Prod.mk.injEq] at H
 obtain ⟨rfl,rfl⟩:=H
 go_enter Try.func74,Try.ntmps74
 go_wp2
 go_ret2
 exact ⟨by first|rfl|(simp;done)|(simp [*];done),uq7⟩

/-! ### bits_Mul64: function 75 -/
def bits_Mul64.f (a0 : Int) (a1 : Int) : Option (Int × Int):=some (IntKind.u64.wrap ((IntKind.u64.wrap ((IntKind.u64.wrap ((a0 / 4294967296) * (a1 / 4294967296))) + ((IntKind.u64.wrap ((IntKind.u64.wrap ((a0 / 4294967296) * (Go.bits .and .u64 a1 4294967295))) + ((IntKind.u64.wrap ((Go.bits .and .u64 a0 4294967295) * (Go.bits .and .u64 a1 4294967295))) / 4294967296))) / 4294967296))) + ((IntKind.u64.wrap ((Go.bits .and .u64 (IntKind.u64.wrap ((IntKind.u64.wrap ((a0 / 4294967296) * (Go.bits .and .u64 a1 4294967295))) + ((IntKind.u64.wrap ((Go.bits .and .u64 a0 4294967295) * (Go.bits .and .u64 a1 4294967295))) / 4294967296))) 4294967295) + (IntKind.u64.wrap ((Go.bits .and .u64 a0 4294967295) * (a1 / 4294967296))))) / 4294967296)),IntKind.u64.wrap (a0 * a1))
set_option maxHeartbeats 8000000 in
set_option maxRecDepth 100000 in
theorem bits_Mul64.calls (a0 : Int) (a1 : Int) (r1 : Int) (r2 : Int) (w : World) (h : bits_Mul64.f a0 a1 = some (r1,r2)) :
  Calls Try.prog 75 #[.int .u64 a0,.int .u64 a1] w fun e w'=>e = .returned (.tuple #[.int .u64 r1,.int .u64 r2])∧Drawn0 w w':=by
 have H : (some (IntKind.u64.wrap ((IntKind.u64.wrap ((IntKind.u64.wrap ((a0 / 4294967296) * (a1 / 4294967296))) + ((IntKind.u64.wrap ((IntKind.u64.wrap ((a0 / 4294967296) * (Go.bits .and .u64 a1 4294967295))) + ((IntKind.u64.wrap ((Go.bits .and .u64 a0 4294967295) * (Go.bits .and .u64 a1 4294967295))) / 4294967296))) / 4294967296))) + ((IntKind.u64.wrap ((Go.bits .and .u64 (IntKind.u64.wrap ((IntKind.u64.wrap ((a0 / 4294967296) * (Go.bits .and .u64 a1 4294967295))) + ((IntKind.u64.wrap ((Go.bits .and .u64 a0 4294967295) * (Go.bits .and .u64 a1 4294967295))) / 4294967296))) 4294967295) + (IntKind.u64.wrap ((Go.bits .and .u64 a0 4294967295) * (a1 / 4294967296))))) / 4294967296)),IntKind.u64.wrap (a0 * a1))) = some (r1,r2):=h
 clear h
 simp only [Option.some.injEq,Prod.mk.injEq] at H
 obtain ⟨rfl,rfl⟩:=H
 go_enter Try.func75,Try.ntmps75
 go_wp2
 go_ret2
 exact ⟨by first|rfl|(simp;done)|(simp [*];done),uq7⟩

/-! ### bits_Mul: function 70 -/
def bits_Mul.f (a0 : Int) (a1 : Int) : Option (Int × Int):=(bits_Mul64.f a0 a1).bind fun bt229=>(some (bt229.1,bt229.2))
set_option maxHeartbeats 8000000 in
set_option maxRecDepth 100000 in
theorem bits_Mul.calls (a0 : Int) (a1 : Int) (r1 : Int) (r2 : Int) (w : World) (h : bits_Mul.f a0 a1 = some (r1,r2)) :
  Calls Try.prog 70 #[.int .u64 a0,.int .u64 a1] w fun e w'=>e = .returned (.tuple #[.int .u64 r1,.int .u64 r2])∧Drawn0 w w':=by
 have H : ((bits_Mul64.f a0 a1).bind fun bt229=>(some (bt229.1,bt229.2))) = some (r1,r2):=h
 clear h
 replace H:=Option.bind_eq_some_iff.mp H
 obtain ⟨⟨t229,t230⟩,A30,H⟩:=H
 replace H : (some (t229,t230)) = some (r1,r2):=H
 have A3:=A_ A30
 clear A30
 simp only [Option.some.injEq,Prod.mk.injEq] at H
 obtain ⟨rfl,rfl⟩:=H
 go_enter Try.func70,Try.ntmps70
 go_wp2_with (first|((with_reducible refine gate_callee (f:=75) rfl ?_);refine gl (some 25) Try.func75 #[.int .u64 a0,.int .u64 a1] ?_;(with_reducible refine (bits_Mul64.calls a0 a1 t229 t230 _ A3.out).mono ?_);rintro e w' ⟨rfl,⟨nd,rfl⟩⟩;refine ⟨_,rfl,?_⟩))
 go_ret2
 exact ⟨by first|rfl|(simp;done)|(simp [*];done),uq7⟩

/-! ### slices_Repeat_int_int: function 60 -/
def slices_Repeat_int_int.f (l0 : List Int) (a1 : Int) : Option (List Int):=if l0.length = 1 then (if 0 ≤ a1∧a1 ≤ 2000 then some (List.replicate a1.toNat (rd l0 0)) else none) else none
theorem slices_Repeat_int_int.calls (A0 : Option Addr) (c0 : Nat) (l0 : List Int) (a1 : Int) (r : List Int) (w : World) (hr0 : Kd.C (Kd.int .i64) w A0 l0.length l0) (hc0 : l0.length ≤ c0) (h : slices_Repeat_int_int.f l0 a1 = some r) :
  Calls Try.prog 60 #[.slice A0 l0.length c0,.int .i64 a1] w fun e w'=>∃ v0_ : Value,e = .returned (v0_)∧Kd.R (Kd.int .i64) 3 w' w.heap.size (fun _=>True) v0_ r∧Below w.heap.size w w':=by
 unfold slices_Repeat_int_int.f at h
 by_cases hl : l0.length = 1
 ·
  rw [if_pos hl] at h
  by_cases ha : 0 ≤ a1∧a1 ≤ 2000
  ·
   rw [if_pos ha] at h
   cases h
   obtain ⟨ad,e,hx⟩:=Kd.at_int hr0 0 (by omega) (by omega)
   subst e
   have:=XJ.repeat_calls (rd l0 0) ad c0 a1.toNat (by omega) w hx
   rw [hl]
   rwa [show ((a1.toNat : Nat) : Int) = a1 by omega] at this
  ·
   rw [if_neg ha] at h
   cases h
 ·
  rw [if_neg hl] at h
  cases h

/-! ### segment_constant_decode: function 92 -/
def segment_constant_decode.f  (l1 : List Int) (a2_0 : Int) (a2_1 : Int) (a2_2 : Int) (a2_3 : Int) (a2_4 : Int) : Option (List Int × Bool):=(slices_Repeat_int_int.f (([a2_2] : List Int)) a2_1).bind fun t236=>(some (t236,((l1.length : Int) == 0)))
set_option maxHeartbeats 8000000 in
set_option maxRecDepth 100000 in
theorem segment_constant_decode.calls  (A1 : Option Addr) (c1 : Nat) (l1 : List Int) (a2_0 : Int) (a2_1 : Int) (a2_2 : Int) (a2_3 : Int) (a2_4 : Int) (r1 : List Int) (r2 : Bool) (w : World) (hr1 : Kd.C (Kd.int .u8) w A1 l1.length l1) (hc1 : l1.length ≤ c1) (h : segment_constant_decode.f l1 a2_0 a2_1 a2_2 a2_3 a2_4 = some (r1,r2)) :
  Calls Try.prog 92 #[.agg #[],.slice A1 l1.length c1,.agg #[.int .i64 a2_0,.int .i64 a2_1,.int .i64 a2_2,.int .i64 a2_3,.int .i64 a2_4]] w fun e w'=>∃ v0_ : Value,e = .returned (.tuple #[v0_,.bool r2])∧Kd.R (Kd.int .i64) 3 w' w.heap.size (fun _=>True) v0_ r1∧Below w.heap.size w w':=by
 have hu100:=Try.underlying100
 have hu27:=Try.underlying27
 have HR1:=A_ hr1
 have HC1:=A_ hc1
 clear hr1 hc1
 have HB:=A_ (Below.refl w.heap.size w)
 have H : ((slices_Repeat_int_int.f (([a2_2] : List Int)) a2_1).bind fun t236=>(some (t236,((l1.length : Int) == 0)))) = some (r1,r2):=h
 clear h
 obtain ⟨y233,hy233⟩ : ∃ y_ : List Int,y_ = (([a2_2] : List Int)):=⟨_,rfl⟩
 replace H : ((slices_Repeat_int_int.f y233 a2_1).bind fun t236=>(some (t236,((l1.length : Int) == 0)))) = some (r1,r2):=by first|(rw [hy233];with_reducible exact H)|(have H2_:=(Option.bind_some _ _).symm.trans H;rw [hy233];with_reducible exact H2_)|(have H2_:=(Option.bind_some _ _).symm.trans H;with_reducible exact H2_)|with_reducible exact H|(rw [hy233];exact H)|exact H
 have Ny233:=A_ hy233
 clear hy233
 replace H:=Option.bind_eq_some_iff.mp H
 obtain ⟨t236,A40,H⟩:=H
 replace H : (some (t236,((l1.length : Int) == 0))) = some (r1,r2):=H
 have A4:=A_ A40
 clear A40
 simp only [Option.some.injEq,Prod.mk.injEq] at H
 obtain ⟨rfl,rfl⟩:=H
 go_enter Try.func92,Try.ntmps92
 go_wp2_with (first|((with_reducible refine gate_dst (N:=3) rfl ?_);refine box_event ?hg (N:=3) ?hd (cs:=#[]) (t:=100) ?hr ?_;(case hd=>rfl);(case hg=>rfl);(case hr=>first|(go_simp;done)|(go_simp;rfl));intro gb231 hg w5 hbox hb;have n0_:=A_ (below_step uq0 hb);have n1_:=A_ (hbox);have n2_:=A_ ((uq8 : w.heap.size ≤ gb231));have n3_:=A_ ((uq8 : w.heap.size ≤ gb231));clear HB;have HB:=n0_;have BK231:=n1_;have GW231:=n2_;have GE231:=n3_;clear n0_ n1_ n2_ n3_;clear hb hbox hg)|((with_reducible refine gate_dst (N:=5) rfl ?_);refine box_event ?hg (N:=5) ?hd (cs:=#[.int .i64 a2_0,.int .i64 a2_1,.int .i64 a2_2,.int .i64 a2_3,.int .i64 a2_4]) (t:=27) ?hr ?_;(case hd=>rfl);(case hg=>rfl);(case hr=>first|(go_simp;done)|(go_simp;rfl));intro gb232 hg w6 hbox hb;have n0_:=A_ (blk_below (g:=gb231) (o:=.cells #[] 100 (0,0)) uq29 hb);have n1_:=A_ (below_step uq39 hb);have n2_:=A_ (hbox);have n3_:=A_ ((by rw [hg];exact (below_size uq39) : w.heap.size ≤ gb232));have n4_:=A_ ((by rw [hg];exact (below_size uq39) : w.heap.size ≤ gb232));have n5_:=A_ ((by rw [hg];exact Nat.ne_of_lt (blk_lt (g:=gb231) (o:=.cells #[] 100 (0,0)) uq29) : gb231≠gb232));have n6_:=A_ ((by rw [hg];exact Nat.ne_of_gt (blk_lt (g:=gb231) (o:=.cells #[] 100 (0,0)) uq29) : gb232≠gb231));clear BK231;clear HB;have BK231:=n0_;have HB:=n1_;have BK232:=n2_;have GW232:=n3_;have GE232:=n4_;have NB231_232:=n5_;have NB232_231:=n6_;clear n0_ n1_ n2_ n3_ n4_ n5_ n6_;clear hb hbox hg;have hnb7:=NB232_231.out;have hnc7:=NB231_232.out;have hcz8_0 : w6.cell? ⟨gb232,0,none⟩ = some (.int .i64 a2_0):=(blk_cell BK232.out 0).trans rfl;have hcz8_1 : w6.cell? ⟨gb232,1,none⟩ = some (.int .i64 a2_1):=(blk_cell BK232.out 1).trans rfl;have hcz8_2 : w6.cell? ⟨gb232,2,none⟩ = some (.int .i64 a2_2):=(blk_cell BK232.out 2).trans rfl;have hcz8_3 : w6.cell? ⟨gb232,3,none⟩ = some (.int .i64 a2_3):=(blk_cell BK232.out 3).trans rfl;have hcz8_4 : w6.cell? ⟨gb232,4,none⟩ = some (.int .i64 a2_4):=(blk_cell BK232.out 4).trans rfl;have hfz8_0:=blk_frozen BK232.out 0;have hfz8_1:=blk_frozen BK232.out 1;have hfz8_2:=blk_frozen BK232.out 2;have hfz8_3:=blk_frozen BK232.out 3;have hfz8_4:=blk_frozen BK232.out 4)|((with_reducible refine gate_dst (N:=10) rfl ?_);refine Kd.R_lit (Kd.int .i64) _ 3 ?hg (N:=10) ?hd (xs:=([a2_2] : List Int)) (inner:=[.int .i64 a2_2]) (ok:=fun _=>True) (okp:=fun _=>True) ?hr ?hp (fun _ hk=>hk) trivial (Below.refl _ _) (Nat.le_refl _) (by simp) ?_;(case hd=>rfl);(case hg=>rfl);(case hr=>first|(go_simp;done)|(go_simp;rfl));(case hp=>exact (Reps.one (show Kd.M (Kd.int .i64) _ _ _ a2_2 [.int .i64 a2_2] from rfl) (Reps.none _ _)));intro v234 w9 ho10 hb hg_ hnew_;clear hg_ hnew_;(first|rw [← Ny233.out] at ho10|(simp only [Int.reduceToNat] at ho10;rw [← Ny233.out] at ho10));have HO235:=A_ (Kd.R_lower ho10 (below_size uq30));replace BK231:=A_ (blk_below (g:=gb231) (o:=.cells #[] 100 (0,0)) uq29 hb);replace BK232:=A_ (blk_below (g:=gb232) (o:=.cells #[.int .i64 a2_0,.int .i64 a2_1,.int .i64 a2_2,.int .i64 a2_3,.int .i64 a2_4] 27 (0,0)) (by (with_reducible repeat (first|refine blk_drewN ?_ _|refine blk_drew ?_|refine blk_alloc ?_ _));exact BK232.out) hb);replace HB:=A_ (below_step uq30 hb);clear hb ho10;have hcz11_0 : w9.cell? ⟨gb232,0,none⟩ = some (.int .i64 a2_0):=(blk_cell BK232.out 0).trans rfl;have hcz11_1 : w9.cell? ⟨gb232,1,none⟩ = some (.int .i64 a2_1):=(blk_cell BK232.out 1).trans rfl;have hcz11_2 : w9.cell? ⟨gb232,2,none⟩ = some (.int .i64 a2_2):=(blk_cell BK232.out 2).trans rfl;have hcz11_3 : w9.cell? ⟨gb232,3,none⟩ = some (.int .i64 a2_3):=(blk_cell BK232.out 3).trans rfl;have hcz11_4 : w9.cell? ⟨gb232,4,none⟩ = some (.int .i64 a2_4):=(blk_cell BK232.out 4).trans rfl;have hfz11_0:=blk_frozen BK232.out 0;have hfz11_1:=blk_frozen BK232.out 1;have hfz11_2:=blk_frozen BK232.out 2;have hfz11_3:=blk_frozen BK232.out 3;have hfz11_4:=blk_frozen BK232.out 4;obtain ⟨Ao12,co12,eo12⟩:=Kd.R_slice HO235.out;subst eo12)|((with_reducible refine gate_callee (f:=60) rfl ?_);refine gl (some 13) Try.func60 #[.slice Ao12 y233.length co12,.int .i64 a2_1] ?_;(with_reducible refine (slices_Repeat_int_int.calls _ _ y233 a2_1 t236 _ ?side1 ?side2 A4.out).mono ?_);(case side1=>exact cx ((rd_ HO235.out).2.2));(case side2=>exact (rd_ HO235.out).2.1);rintro e w13 ⟨v237,rfl,ho0,hb⟩;refine ⟨_,rfl,?_⟩;have n0_:=A_ (re (rx HO235.out) (rs ho0) hb);have n1_:=A_ (Kd.R_lower (rn ho0 (rl (rx HO235.out))) (below_size uq30));have n2_:=A_ (blk_below (g:=gb231) (o:=.cells #[] 100 (0,0)) uq29 hb);have n3_:=A_ (blk_below (g:=gb232) (o:=.cells #[.int .i64 a2_0,.int .i64 a2_1,.int .i64 a2_2,.int .i64 a2_3,.int .i64 a2_4] 27 (0,0)) (by (with_reducible repeat (first|refine blk_drewN ?_ _|refine blk_drew ?_|refine blk_alloc ?_ _));exact BK232.out) hb);have n4_:=A_ (below_step uq30 hb);clear HO235;clear BK231;clear BK232;clear HB;have HO235:=n0_;have HO238:=n1_;have BK231:=n2_;have BK232:=n3_;have HB:=n4_;clear n0_ n1_ n2_ n3_ n4_;(try clear hb);(try clear hb2);(try clear hk);(try clear hi);(try clear ho0)))
 go_ret2
 exact ⟨_,by first|rfl|(simp [errW_none,errW_some] <;> rfl)|(simp [*,errW_none,errW_some] <;> rfl),by (with_reducible repeat (first|apply ra|apply rb|apply rc));exact rm HO238.out (fun _ hk=>trivial),uq30⟩

/-! ### codec_Unpack: function 98 -/
def codec_Unpack.f (l0 : List Int) (a1 : Int) (a2 : Int) : Option (List Int × Int):=if a1 < 0 ∨ 32 < a1 then some ([],1) else if a2 < 0 ∨ 2000 < a2 then some ([],4) else (codec_size.f a1 a2).bind fun m=>if (l0.length : Int) = m then (if m = (((a1.toNat * a2.toNat + 7) / 8 : Nat) : Int) then (if X.padb (X.bitz l0) (a1.toNat * a2.toNat) (8 * l0.length) = true then some (X.unp (X.bitz l0) a1.toNat a2.toNat,0) else some ([],3)) else none) else some ([],if (l0.length : Int) < m then 2 else 3)
theorem codec_Unpack.calls (A0 : Option Addr) (c0 : Nat) (l0 : List Int) (a1 : Int) (a2 : Int) (r1 : List Int) (r2 : Int) (w : World) (hr0 : Kd.C (Kd.int .u8) w A0 l0.length l0) (hc0 : l0.length ≤ c0) (h : codec_Unpack.f l0 a1 a2 = some (r1,r2)) :
  Calls Try.prog 98 #[.slice A0 l0.length c0,.int .i64 a1,.int .i64 a2] w fun e w'=>∃ v0_ : Value,e = .returned (.tuple #[v0_,.int .i64 r2])∧Kd.R (Kd.int .i64) 3 w' w.heap.size (fun _=>True) v0_ r1∧Below w.heap.size w w':=by
 unfold codec_Unpack.f at h
 by_cases h1 : a1 < 0 ∨ 32 < a1
 ·
  rw [if_pos h1] at h
  cases h
  exact (X.unpack_range A0 c0 l0 a1 a2 w h1).mono fun e w' ⟨e1,e2⟩=>⟨_,e1,Kd.R_nil _ _ _ _ _,e2⟩
 rw [if_neg h1] at h
 by_cases h2 : a2 < 0 ∨ 2000 < a2
 ·
  rw [if_pos h2] at h
  cases h
  exact (X.unpack_limit A0 c0 l0 a1 a2 w (by omega) (by omega) h2).mono fun e w' ⟨e1,e2⟩=>⟨_,e1,Kd.R_nil _ _ _ _ _,e2⟩
 rw [if_neg h2] at h
 obtain ⟨m,hm,h⟩:=Option.bind_eq_some_iff.mp h
 have hs:=fun w1 : World=>codec_size.calls a1 a2 m w1 hm
 by_cases h3 : (l0.length : Int) = m
 ·
  rw [if_pos h3] at h
  by_cases h4 : m = (((a1.toNat * a2.toNat + 7) / 8 : Nat) : Int)
  ·
   rw [if_pos h4] at h
   obtain ⟨wd,rfl⟩:=Int.eq_ofNat_of_zero_le (show 0 ≤ a1 by omega)
   obtain ⟨n,rfl⟩:=Int.eq_ofNat_of_zero_le (show 0 ≤ a2 by omega)
   simp only [Int.toNat_natCast] at h h4
   have hwn : wd * n ≤ 64000:=Nat.mul_le_mul (show wd ≤ 32 by omega) (show n ≤ 2000 by omega)
   have hl : l0.length = (wd * n + 7) / 8:=by omega
   rw [← h3] at hs
   have key:=X.unpack_ok (X.bitz l0) A0 c0 l0 wd n (wd * n) (8 * l0.length) w hr0 (by omega) (by omega) ⟨rfl⟩ ⟨rfl⟩ (by omega) (by omega) ⟨hs⟩ ⟨fun i z W hi hz hG hR=>by
    subst hz
    exact X.bit_calls w.heap.size A0 c0 l0 i W hG hR hi (by omega)⟩
   refine key.mono fun e w' hh=>?_
   rcases hh with ⟨b1,v0,e1,e2,e3⟩|⟨b1,e1,e2⟩
   ·
    rw [if_pos b1] at h
    cases h
    exact ⟨v0,e1,e2,e3⟩
   ·
    rw [if_neg (by rw [b1];simp)] at h
    cases h
    exact ⟨_,e1,Kd.R_nil _ _ _ _ _,e2⟩
  ·
   rw [if_neg h4] at h
   cases h
 ·
  rw [if_neg h3] at h
  cases h
  exact (X.unpack_size A0 c0 l0 a1 a2 m w (by omega) (by omega) (by omega) (by omega) h3 ⟨hs⟩).mono fun e w' ⟨e1,e2⟩=>⟨_,e1,Kd.R_nil _ _ _ _ _,e2⟩

end Go.Proofs.Ytdnhfofmfpgmmaa.PSegmentBack
