/- This file proves, function by function, what the Go functions that one law uses compute; most of it was printed by a program (wip/tools of this session, over the kit's print). -/
import Derived.Test.YtgmiilolikbekaaPPacketAnswersx0
import Derived.Test.YtgmiilolikbekaaPPacketAnswersx2
namespace Go.Proofs.Ytgmiilolikbekaa.PPacketAnswers
open Go.RowKit Go.Proofs.YtgmiilolikbekaaW.PrintWords Go.Proofs.YtgmiilolikbekaaW.PrintLast Go.Proofs.YtgmiilolikbekaaW.PrintMore
attribute [local go_sem] max2_int min2_int max_two min_two max_three min_three max_four min_four   -- for this text's walks alone
set_option linter.unusedVariables false
set_option linter.unusedSimpArgs false

/-! ### codec_Int: function 32 -/
mutual
def codec_Int.j0 : Nat → List Int → Int → Bool → Option (Int × Int × Int)
  | 0, _, _, _ => none
  | k + 1, x0, x1, x17 => if x17 = true then (some (0, 0, 1)) else (codec_Int.l0 k x0 x1 0 0)
def codec_Int.l0 : Nat → List Int → Int → Int → Int → Option (Int × Int × Int)
  | 0, _, _, _, _ => none
  | k + 1, x0, x1, x7, x18 => if x18 < 10 then (if (wrap64 (x1 + x18)) ≥ (x0.length : Int) then (some (0, 0, 2)) else (if 0 ≤ (wrap64 (x1 + x18)) then (if (wrap64 (x1 + x18)) < (x0.length : Int) then (if 0 ≤ (wrap64 (7 * x18)) then (if (rd x0 (wrap64 (x1 + x18))) ≥ 128 then (codec_Int.l0 k x0 x1 (Go.bits .or .u64 x7 (shl .u64 (IntKind.u64.wrap (Go.bits .and .u8 (rd x0 (wrap64 (x1 + x18))) 127)) (wrap64 (7 * x18)))) (wrap64 (x18 + 1))) else (if x18 = 9 then (if (rd x0 (wrap64 (x1 + x18))) > 1 then (some (0, 0, 3)) else (if x18 > 0 then (if (rd x0 (wrap64 (x1 + x18))) = 0 then (some (0, 0, 3)) else (some (Go.bits .xor .i64 (wrap64 ((Go.bits .or .u64 x7 (shl .u64 (IntKind.u64.wrap (Go.bits .and .u8 (rd x0 (wrap64 (x1 + x18))) 127)) (wrap64 (7 * x18)))) / 2)) (wrap64 (-(wrap64 (Go.bits .and .u64 (Go.bits .or .u64 x7 (shl .u64 (IntKind.u64.wrap (Go.bits .and .u8 (rd x0 (wrap64 (x1 + x18))) 127)) (wrap64 (7 * x18)))) 1)))), wrap64 ((wrap64 (x1 + x18)) + 1), 0))) else (some (Go.bits .xor .i64 (wrap64 ((Go.bits .or .u64 x7 (shl .u64 (IntKind.u64.wrap (Go.bits .and .u8 (rd x0 (wrap64 (x1 + x18))) 127)) (wrap64 (7 * x18)))) / 2)) (wrap64 (-(wrap64 (Go.bits .and .u64 (Go.bits .or .u64 x7 (shl .u64 (IntKind.u64.wrap (Go.bits .and .u8 (rd x0 (wrap64 (x1 + x18))) 127)) (wrap64 (7 * x18)))) 1)))), wrap64 ((wrap64 (x1 + x18)) + 1), 0)))) else (if x18 > 0 then (if (rd x0 (wrap64 (x1 + x18))) = 0 then (some (0, 0, 3)) else (some (Go.bits .xor .i64 (wrap64 ((Go.bits .or .u64 x7 (shl .u64 (IntKind.u64.wrap (Go.bits .and .u8 (rd x0 (wrap64 (x1 + x18))) 127)) (wrap64 (7 * x18)))) / 2)) (wrap64 (-(wrap64 (Go.bits .and .u64 (Go.bits .or .u64 x7 (shl .u64 (IntKind.u64.wrap (Go.bits .and .u8 (rd x0 (wrap64 (x1 + x18))) 127)) (wrap64 (7 * x18)))) 1)))), wrap64 ((wrap64 (x1 + x18)) + 1), 0))) else (some (Go.bits .xor .i64 (wrap64 ((Go.bits .or .u64 x7 (shl .u64 (IntKind.u64.wrap (Go.bits .and .u8 (rd x0 (wrap64 (x1 + x18))) 127)) (wrap64 (7 * x18)))) / 2)) (wrap64 (-(wrap64 (Go.bits .and .u64 (Go.bits .or .u64 x7 (shl .u64 (IntKind.u64.wrap (Go.bits .and .u8 (rd x0 (wrap64 (x1 + x18))) 127)) (wrap64 (7 * x18)))) 1)))), wrap64 ((wrap64 (x1 + x18)) + 1), 0))))) else (none)) else (none)) else (none))) else (some (0, 0, 3))
end
def codec_Int.f (k : Nat) (l0 : List Int) (a1 : Int) : Option (Int × Int × Int) := if a1 < 0 then (codec_Int.j0 k l0 a1 true) else (codec_Int.j0 k l0 a1 (decide (a1 > (l0.length : Int))))
theorem codec_Int.mono_l : ∀ k, (∀ y0 y1 y2, LeO (codec_Int.j0 k y0 y1 y2) (codec_Int.j0 (k + 1) y0 y1 y2)) ∧ (∀ y0 y1 y2 y3, LeO (codec_Int.l0 k y0 y1 y2 y3) (codec_Int.l0 (k + 1) y0 y1 y2 y3))
  | 0 => ⟨fun _ _ _ r h => by simp [codec_Int.j0] at h, fun _ _ _ _ r h => by simp [codec_Int.l0] at h⟩
  | k + 1 => by
    obtain ⟨ih0, ih1⟩ := codec_Int.mono_l k
    refine ⟨?_, ?_⟩
    · intro y0 y1 y2
      unfold codec_Int.j0
      repeat' first
      | (with_reducible exact ih0 _ _ _)
      | (with_reducible exact ih1 _ _ _ _)
      | (with_reducible exact LeO.refl _)
      | (with_reducible exact LeO.none _)
      | (with_reducible refine LeO.ite ?_ ?_)
      | (with_reducible refine LeO.bind ?_ (fun _ => ?_))
      | exact ih0 _ _ _
      | exact ih1 _ _ _ _
      | exact LeO.none _
      | refine LeO.ite ?_ ?_
      | refine LeO.bind ?_ (fun _ => ?_)
    · intro y0 y1 y2 y3
      unfold codec_Int.l0
      repeat' first
      | (with_reducible exact ih0 _ _ _)
      | (with_reducible exact ih1 _ _ _ _)
      | (with_reducible exact LeO.refl _)
      | (with_reducible exact LeO.none _)
      | (with_reducible refine LeO.ite ?_ ?_)
      | (with_reducible refine LeO.bind ?_ (fun _ => ?_))
      | exact ih0 _ _ _
      | exact ih1 _ _ _ _
      | exact LeO.none _
      | refine LeO.ite ?_ ?_
      | refine LeO.bind ?_ (fun _ => ?_)
theorem codec_Int.mono : ∀ a0 a1 k, LeO (codec_Int.f k a0 a1) (codec_Int.f (k + 1) a0 a1) := by
  intro a0 a1 k
  obtain ⟨ih0, ih1⟩ := codec_Int.mono_l k
  unfold codec_Int.f
  repeat' first
      | (with_reducible exact ih0 _ _ _)
      | (with_reducible exact ih1 _ _ _ _)
      | (with_reducible exact LeO.refl _)
      | (with_reducible exact LeO.none _)
      | (with_reducible refine LeO.ite ?_ ?_)
      | (with_reducible refine LeO.bind ?_ (fun _ => ?_))
      | exact ih0 _ _ _
      | exact ih1 _ _ _ _
      | exact LeO.none _
      | refine LeO.ite ?_ ?_
      | refine LeO.bind ?_ (fun _ => ?_)
set_option maxHeartbeats 8000000 in
set_option maxRecDepth 100000 in
theorem codec_Int.calls (k : Nat) (A0 : Option Addr) (c0 : Nat) (l0 : List Int) (a1 : Int) (r1 : Int) (r2 : Int) (r3 : Int) (w : World) (hr0 : Kd.C (Kd.int .u8) w A0 l0.length l0) (hc0 : l0.length ≤ c0) (h : codec_Int.f k l0 a1 = some (r1, r2, r3)) :
    Calls Try.prog 32 #[.slice A0 l0.length c0, .int .i64 a1] w fun e w' => e = .returned (.tuple #[.int .i64 r1, .int .i64 r2, .int .i64 r3]) ∧ Drawn0 w w' := by
  have HR0 := Aside0.mk hr0
  have HC0 := Aside0.mk hc0
  clear hr0 hc0
  have H : (if a1 < 0 then (codec_Int.j0 k l0 a1 true) else (codec_Int.j0 k l0 a1 (decide (a1 > (l0.length : Int))))) = some (r1, r2, r3) := h
  clear h
  have HC3 := Aside0.mk H
  clear H
  go_enter Try.func32, Try.ntmps32
  go_upto_region 1 with (fail)
  go_cut [17] (fun v17 wc => ∃ (kq : Nat) (x17_2 : Bool), v17 = .bool x17_2 ∧ Aside0 (codec_Int.j0 kq l0 a1 x17_2 = some (r1, r2, r3)) ∧ Aside0 (kq ≤ k) ∧ Drawn0 w wc)
  case first =>
    have H := HC3.out
    clear HC3
    by_cases c4 : a1 < 0
    · rw [if_pos c4] at H
      have c4b0 : decide (a1 < 0) = true := decide_eq_true c4
      clear c4
      (first | rw [c4b0] | (simp only [i64_w, i32_w]; rw [c4b0]) | skip)
      have H' := Aside0.mk H
      clear H
      go_wp2
      go_meet
      case rel => exact ⟨_, (true), (by first | rfl | (simp; done) | (simp [*]; done)), H', ⟨by first | omega | exact Nat.le_refl _⟩, by repeat (first | exact Drawn0.refl _ | apply Drawn0.step)⟩
    · rw [if_neg c4] at H
      have c4b0 : decide (a1 < 0) = false := decide_eq_false c4
      clear c4
      (first | rw [c4b0] | (simp only [i64_w, i32_w]; rw [c4b0]) | skip)
      have H' := Aside0.mk H
      clear H
      go_wp2
      go_meet
      case rel => exact ⟨_, (decide (a1 > (l0.length : Int))), (by first | rfl | (simp; done) | (simp [*]; done)), H', ⟨by first | omega | exact Nat.le_refl _⟩, by repeat (first | exact Drawn0.refl _ | apply Drawn0.step)⟩
  case rest =>
    clear HC3
    try clear p2
    try clear c3
    try clear c4
    try clear c4b0
    obtain ⟨kq, x17_2, rfl, HA, HJ2, ⟨mc2, rfl⟩⟩ := hcut
    cases kq with
    | zero => exact absurd HA.out (by simp [codec_Int.j0])
    | succ kj2 =>
      have H := HA.out
      clear HA
      simp only [codec_Int.j0] at H
      by_cases c5 : x17_2 = true
      · subst c5
        have H1 : (some (0, 0, 1)) = some (r1, r2, r3) := by rw [if_pos rfl] at H; exact H
        clear H
        have H := H1
        clear H1
        simp only [Option.some.injEq, Prod.mk.injEq] at H
        obtain ⟨rfl, rfl, rfl⟩ := H
        go_wp2
        go_ret3
        exact ⟨by first | rfl | (simp; done) | (simp [*]; done), by repeat (first | exact Drawn0.refl _ | apply Drawn0.step)⟩
      · replace c5 := Bool.eq_false_iff.mpr c5
        subst c5
        have H1 : (codec_Int.l0 kj2 l0 a1 0 0) = some (r1, r2, r3) := by rw [if_neg (show ¬ (false = true) by decide)] at H; exact H
        clear H
        have H := H1
        clear H1
        have H' := Aside0.mk H
        clear H
        go_wp2
        go_loopg [7, 18] kj2 (fun kq v7 v18 w' => ∃ (x7_2 : Int) (x18_2 : Int), v7 = .int .u64 x7_2 ∧ v18 = .int .i64 x18_2 ∧ Aside0 (codec_Int.l0 kq l0 a1 x7_2 x18_2 = some (r1, r2, r3)) ∧ Aside0 (kq ≤ kj2) ∧ Drawn0 w w')
        case atStart => exact ⟨(0), (0), (by first | rfl | (simp; done) | (simp [*]; done)), (by first | rfl | (simp; done) | (simp [*]; done)), H', ⟨Nat.le_refl _⟩, by repeat (first | exact Drawn0.refl _ | apply Drawn0.step)⟩
        case round =>
          clear H'
          try clear c2
          try clear p2
          try clear c3
          try clear c4
          try clear c4b0
          try clear c5
          try clear p2
          obtain ⟨x7_2, x18_2, rfl, rfl, HA, HK2, ⟨m2, rfl⟩⟩ := hrel
          cases gk with
          | zero => exact absurd HA.out (by simp [codec_Int.l0])
          | succ k2 =>
            have H := HA.out
            clear HA
            simp only [codec_Int.l0] at H
            by_cases c6 : x18_2 < 10
            · rw [if_pos c6] at H
              have c6b0 : decide (x18_2 < 10) = true := decide_eq_true c6
              clear c6
              by_cases c7 : (wrap64 (a1 + x18_2)) ≥ (l0.length : Int)
              · rw [if_pos c7] at H
                have c7b0 : decide ((l0.length : Int) ≤ (wrap64 (a1 + x18_2))) = true := decide_eq_true c7
                clear c7
                simp only [Option.some.injEq, Prod.mk.injEq] at H
                obtain ⟨rfl, rfl, rfl⟩ := H
                go_wp2
                go_ret3
                exact ⟨by first | rfl | (simp; done) | (simp [*]; done), by repeat (first | exact Drawn0.refl _ | apply Drawn0.step)⟩
              · rw [if_neg c7] at H
                have c7b0 : decide ((l0.length : Int) ≤ (wrap64 (a1 + x18_2))) = false := decide_eq_false c7
                clear c7
                obtain ⟨ji8, hji8⟩ : ∃ j_ : Int, (wrap64 (a1 + x18_2)) = j_ := ⟨_, rfl⟩
                replace H : (if 0 ≤ (ji8) then (if (ji8) < (l0.length : Int) then (if 0 ≤ (wrap64 (7 * x18_2)) then (if (rd l0 (ji8)) ≥ 128 then (codec_Int.l0 k2 l0 a1 (Go.bits .or .u64 x7_2 (shl .u64 (IntKind.u64.wrap (Go.bits .and .u8 (rd l0 (ji8)) 127)) (wrap64 (7 * x18_2)))) (wrap64 (x18_2 + 1))) else (if x18_2 = 9 then (if (rd l0 (ji8)) > 1 then (some (0, 0, 3)) else (if x18_2 > 0 then (if (rd l0 (ji8)) = 0 then (some (0, 0, 3)) else (some (Go.bits .xor .i64 (wrap64 ((Go.bits .or .u64 x7_2 (shl .u64 (IntKind.u64.wrap (Go.bits .and .u8 (rd l0 (ji8)) 127)) (wrap64 (7 * x18_2)))) / 2)) (wrap64 (-(wrap64 (Go.bits .and .u64 (Go.bits .or .u64 x7_2 (shl .u64 (IntKind.u64.wrap (Go.bits .and .u8 (rd l0 (ji8)) 127)) (wrap64 (7 * x18_2)))) 1)))), wrap64 ((ji8) + 1), 0))) else (some (Go.bits .xor .i64 (wrap64 ((Go.bits .or .u64 x7_2 (shl .u64 (IntKind.u64.wrap (Go.bits .and .u8 (rd l0 (ji8)) 127)) (wrap64 (7 * x18_2)))) / 2)) (wrap64 (-(wrap64 (Go.bits .and .u64 (Go.bits .or .u64 x7_2 (shl .u64 (IntKind.u64.wrap (Go.bits .and .u8 (rd l0 (ji8)) 127)) (wrap64 (7 * x18_2)))) 1)))), wrap64 ((ji8) + 1), 0)))) else (if x18_2 > 0 then (if (rd l0 (ji8)) = 0 then (some (0, 0, 3)) else (some (Go.bits .xor .i64 (wrap64 ((Go.bits .or .u64 x7_2 (shl .u64 (IntKind.u64.wrap (Go.bits .and .u8 (rd l0 (ji8)) 127)) (wrap64 (7 * x18_2)))) / 2)) (wrap64 (-(wrap64 (Go.bits .and .u64 (Go.bits .or .u64 x7_2 (shl .u64 (IntKind.u64.wrap (Go.bits .and .u8 (rd l0 (ji8)) 127)) (wrap64 (7 * x18_2)))) 1)))), wrap64 ((ji8) + 1), 0))) else (some (Go.bits .xor .i64 (wrap64 ((Go.bits .or .u64 x7_2 (shl .u64 (IntKind.u64.wrap (Go.bits .and .u8 (rd l0 (ji8)) 127)) (wrap64 (7 * x18_2)))) / 2)) (wrap64 (-(wrap64 (Go.bits .and .u64 (Go.bits .or .u64 x7_2 (shl .u64 (IntKind.u64.wrap (Go.bits .and .u8 (rd l0 (ji8)) 127)) (wrap64 (7 * x18_2)))) 1)))), wrap64 ((ji8) + 1), 0))))) else (none)) else (none)) else (none)) = some (r1, r2, r3) := by first | (rw [hji8] at H; exact H) | (simp only [hji8] at H ⊢; exact H)
                (try rw [hji8] at c7b0)
                have hji8w : (IntKind.i64.wrap (a1 + x18_2)) = ji8 := (i64_w _).trans hji8
                by_cases c9 : 0 ≤ (ji8)
                · rw [if_pos c9] at H
                  have c9b0 : decide (0 ≤ (ji8)) = true := decide_eq_true c9
                  clear c9
                  by_cases c10 : (ji8) < (l0.length : Int)
                  · rw [if_pos c10] at H
                    have c10b0 : decide ((ji8) < (l0.length : Int)) = true := decide_eq_true c10
                    clear c10
                    obtain ⟨ji11, hji11⟩ : ∃ j_ : Int, (wrap64 (7 * x18_2)) = j_ := ⟨_, rfl⟩
                    replace H : (if 0 ≤ (ji11) then (if (rd l0 (ji8)) ≥ 128 then (codec_Int.l0 k2 l0 a1 (Go.bits .or .u64 x7_2 (shl .u64 (IntKind.u64.wrap (Go.bits .and .u8 (rd l0 (ji8)) 127)) (ji11))) (wrap64 (x18_2 + 1))) else (if x18_2 = 9 then (if (rd l0 (ji8)) > 1 then (some (0, 0, 3)) else (if x18_2 > 0 then (if (rd l0 (ji8)) = 0 then (some (0, 0, 3)) else (some (Go.bits .xor .i64 (wrap64 ((Go.bits .or .u64 x7_2 (shl .u64 (IntKind.u64.wrap (Go.bits .and .u8 (rd l0 (ji8)) 127)) (ji11))) / 2)) (wrap64 (-(wrap64 (Go.bits .and .u64 (Go.bits .or .u64 x7_2 (shl .u64 (IntKind.u64.wrap (Go.bits .and .u8 (rd l0 (ji8)) 127)) (ji11))) 1)))), wrap64 ((ji8) + 1), 0))) else (some (Go.bits .xor .i64 (wrap64 ((Go.bits .or .u64 x7_2 (shl .u64 (IntKind.u64.wrap (Go.bits .and .u8 (rd l0 (ji8)) 127)) (ji11))) / 2)) (wrap64 (-(wrap64 (Go.bits .and .u64 (Go.bits .or .u64 x7_2 (shl .u64 (IntKind.u64.wrap (Go.bits .and .u8 (rd l0 (ji8)) 127)) (ji11))) 1)))), wrap64 ((ji8) + 1), 0)))) else (if x18_2 > 0 then (if (rd l0 (ji8)) = 0 then (some (0, 0, 3)) else (some (Go.bits .xor .i64 (wrap64 ((Go.bits .or .u64 x7_2 (shl .u64 (IntKind.u64.wrap (Go.bits .and .u8 (rd l0 (ji8)) 127)) (ji11))) / 2)) (wrap64 (-(wrap64 (Go.bits .and .u64 (Go.bits .or .u64 x7_2 (shl .u64 (IntKind.u64.wrap (Go.bits .and .u8 (rd l0 (ji8)) 127)) (ji11))) 1)))), wrap64 ((ji8) + 1), 0))) else (some (Go.bits .xor .i64 (wrap64 ((Go.bits .or .u64 x7_2 (shl .u64 (IntKind.u64.wrap (Go.bits .and .u8 (rd l0 (ji8)) 127)) (ji11))) / 2)) (wrap64 (-(wrap64 (Go.bits .and .u64 (Go.bits .or .u64 x7_2 (shl .u64 (IntKind.u64.wrap (Go.bits .and .u8 (rd l0 (ji8)) 127)) (ji11))) 1)))), wrap64 ((ji8) + 1), 0))))) else (none)) = some (r1, r2, r3) := by first | (rw [hji11] at H; exact H) | (simp only [hji11] at H ⊢; exact H)
                    have hji11w : (IntKind.i64.wrap (7 * x18_2)) = ji11 := (i64_w _).trans hji11
                    by_cases c12 : 0 ≤ (ji11)
                    · rw [if_pos c12] at H
                      have c12b0 := eq_true c12
                      have c12b1 : decide (0 ≤ (ji11)) = true := decide_eq_true c12
                      clear c12
                      obtain ⟨ji13, hji13⟩ : ∃ j_ : Int, (shl .u64 (IntKind.u64.wrap (Go.bits .and .u8 (rd l0 (ji8)) 127)) (ji11)) = j_ := ⟨_, rfl⟩
                      replace H : (if (rd l0 (ji8)) ≥ 128 then (codec_Int.l0 k2 l0 a1 (Go.bits .or .u64 x7_2 (ji13)) (wrap64 (x18_2 + 1))) else (if x18_2 = 9 then (if (rd l0 (ji8)) > 1 then (some (0, 0, 3)) else (if x18_2 > 0 then (if (rd l0 (ji8)) = 0 then (some (0, 0, 3)) else (some (Go.bits .xor .i64 (wrap64 ((Go.bits .or .u64 x7_2 (ji13)) / 2)) (wrap64 (-(wrap64 (Go.bits .and .u64 (Go.bits .or .u64 x7_2 (ji13)) 1)))), wrap64 ((ji8) + 1), 0))) else (some (Go.bits .xor .i64 (wrap64 ((Go.bits .or .u64 x7_2 (ji13)) / 2)) (wrap64 (-(wrap64 (Go.bits .and .u64 (Go.bits .or .u64 x7_2 (ji13)) 1)))), wrap64 ((ji8) + 1), 0)))) else (if x18_2 > 0 then (if (rd l0 (ji8)) = 0 then (some (0, 0, 3)) else (some (Go.bits .xor .i64 (wrap64 ((Go.bits .or .u64 x7_2 (ji13)) / 2)) (wrap64 (-(wrap64 (Go.bits .and .u64 (Go.bits .or .u64 x7_2 (ji13)) 1)))), wrap64 ((ji8) + 1), 0))) else (some (Go.bits .xor .i64 (wrap64 ((Go.bits .or .u64 x7_2 (ji13)) / 2)) (wrap64 (-(wrap64 (Go.bits .and .u64 (Go.bits .or .u64 x7_2 (ji13)) 1)))), wrap64 ((ji8) + 1), 0))))) = some (r1, r2, r3) := by first | (rw [hji13] at H; exact H) | (simp only [hji13] at H ⊢; exact H)
                      have hji13_ : (IntKind.u64.wrap ((IntKind.u64.wrap (Go.bits .and .u8 (rd l0 (ji8)) 127)) * 2 ^ min (ji11).toNat 64)) = ji13 := hji13
                      have hji13z : (ji11) ≤ 64 → (IntKind.u64.wrap ((IntKind.u64.wrap (Go.bits .and .u8 (rd l0 (ji8)) 127)) * 2 ^ (ji11).toNat)) = ji13 := shl_small hji13
                      by_cases c14 : (rd l0 (ji8)) ≥ 128
                      · rw [if_pos c14] at H
                        have c14b0 : decide (128 ≤ (rd l0 (ji8))) = true := decide_eq_true c14
                        clear c14
                        have H' := Aside0.mk H
                        clear H
                        have p302 : 0 ≤ ((ji8) : Int) := of_decide_eq_true (by first | (with_reducible assumption) | assumption)
                        have q302 : (ji8) < (l0.length : Int) := of_decide_eq_true (by first | (with_reducible assumption) | assumption)
                        obtain ⟨ad302, e302, hx302_0⟩ := Kd.at_int HR0.out (ji8) p302 q302
                        cases e302
                        replace p302 := eq_true p302
                        replace q302 := eq_true q302
                        go_wp2
                        go_roundg k2
                        case measure => have := HJ2.out; have := HK2.out; omega
                        case rel => exact ⟨(Go.bits .or .u64 x7_2 (ji13)), (wrap64 (x18_2 + 1)), (by first | rfl | (simp; done) | (simp only [← hji13] <;> (first | rfl | simp)) | (simp [*]; done)), (by first | rfl | (simp; done) | (simp [*]; done)), H', ⟨by have := HJ2.out; have := HK2.out; omega⟩, by repeat (first | exact Drawn0.refl _ | apply Drawn0.step)⟩
                      · rw [if_neg c14] at H
                        have c14b0 : decide (128 ≤ (rd l0 (ji8))) = false := decide_eq_false c14
                        clear c14
                        by_cases c15 : x18_2 = 9
                        · rw [if_pos c15] at H
                          have c15b0 : (x18_2 == 9) = true := beq_iff_eq.mpr c15
                          have c15b1 : (x18_2 != 9) = false := bne_eq_false_iff_eq.mpr c15
                          clear c15
                          by_cases c16 : (rd l0 (ji8)) > 1
                          · rw [if_pos c16] at H
                            have c16b0 : decide (1 < (rd l0 (ji8))) = true := decide_eq_true c16
                            clear c16
                            simp only [Option.some.injEq, Prod.mk.injEq] at H
                            obtain ⟨rfl, rfl, rfl⟩ := H
                            have p302 : 0 ≤ ((ji8) : Int) := of_decide_eq_true (by first | (with_reducible assumption) | assumption)
                            have q302 : (ji8) < (l0.length : Int) := of_decide_eq_true (by first | (with_reducible assumption) | assumption)
                            obtain ⟨ad302, e302, hx302_0⟩ := Kd.at_int HR0.out (ji8) p302 q302
                            cases e302
                            replace p302 := eq_true p302
                            replace q302 := eq_true q302
                            go_wp2
                            go_ret3
                            exact ⟨by first | rfl | (simp; done) | (simp only [← hji8, ← hji11, ← hji13] <;> (first | rfl | simp)) | (simp [*]; done), by repeat (first | exact Drawn0.refl _ | apply Drawn0.step)⟩
                          · rw [if_neg c16] at H
                            have c16b0 : decide (1 < (rd l0 (ji8))) = false := decide_eq_false c16
                            clear c16
                            by_cases c17 : x18_2 > 0
                            · rw [if_pos c17] at H
                              have c17b0 : decide (0 < x18_2) = true := decide_eq_true c17
                              clear c17
                              by_cases c18 : (rd l0 (ji8)) = 0
                              · rw [if_pos c18] at H
                                have c18b0 : ((rd l0 (ji8)) == 0) = true := beq_iff_eq.mpr c18
                                have c18b1 : ((rd l0 (ji8)) != 0) = false := bne_eq_false_iff_eq.mpr c18
                                clear c18
                                simp only [Option.some.injEq, Prod.mk.injEq] at H
                                obtain ⟨rfl, rfl, rfl⟩ := H
                                have p302 : 0 ≤ ((ji8) : Int) := of_decide_eq_true (by first | (with_reducible assumption) | assumption)
                                have q302 : (ji8) < (l0.length : Int) := of_decide_eq_true (by first | (with_reducible assumption) | assumption)
                                obtain ⟨ad302, e302, hx302_0⟩ := Kd.at_int HR0.out (ji8) p302 q302
                                cases e302
                                replace p302 := eq_true p302
                                replace q302 := eq_true q302
                                go_wp2
                                go_ret3
                                exact ⟨by first | rfl | (simp; done) | (simp only [← hji8, ← hji11, ← hji13] <;> (first | rfl | simp)) | (simp [*]; done), by repeat (first | exact Drawn0.refl _ | apply Drawn0.step)⟩
                              · rw [if_neg c18] at H
                                have c18b0 : ((rd l0 (ji8)) == 0) = false := beq_eq_false_iff_ne.mpr c18
                                have c18b1 : ((rd l0 (ji8)) != 0) = true := bne_iff_ne.mpr c18
                                simp only [Option.some.injEq, Prod.mk.injEq] at H
                                obtain ⟨rfl, rfl, rfl⟩ := H
                                have p302 : 0 ≤ ((ji8) : Int) := of_decide_eq_true (by first | (with_reducible assumption) | assumption)
                                have q302 : (ji8) < (l0.length : Int) := of_decide_eq_true (by first | (with_reducible assumption) | assumption)
                                obtain ⟨ad302, e302, hx302_0⟩ := Kd.at_int HR0.out (ji8) p302 q302
                                cases e302
                                replace p302 := eq_true p302
                                replace q302 := eq_true q302
                                go_wp2
                                go_ret3
                                exact ⟨by first | rfl | (simp; done) | (simp only [← hji8, ← hji11, ← hji13] <;> (first | rfl | simp)) | (simp [*]; done), by repeat (first | exact Drawn0.refl _ | apply Drawn0.step)⟩
                            · rw [if_neg c17] at H
                              have c17b0 : decide (0 < x18_2) = false := decide_eq_false c17
                              clear c17
                              simp only [Option.some.injEq, Prod.mk.injEq] at H
                              obtain ⟨rfl, rfl, rfl⟩ := H
                              have p302 : 0 ≤ ((ji8) : Int) := of_decide_eq_true (by first | (with_reducible assumption) | assumption)
                              have q302 : (ji8) < (l0.length : Int) := of_decide_eq_true (by first | (with_reducible assumption) | assumption)
                              obtain ⟨ad302, e302, hx302_0⟩ := Kd.at_int HR0.out (ji8) p302 q302
                              cases e302
                              replace p302 := eq_true p302
                              replace q302 := eq_true q302
                              go_wp2
                              go_ret3
                              exact ⟨by first | rfl | (simp; done) | (simp only [← hji8, ← hji11, ← hji13] <;> (first | rfl | simp)) | (simp [*]; done), by repeat (first | exact Drawn0.refl _ | apply Drawn0.step)⟩
                        · rw [if_neg c15] at H
                          have c15b0 : (x18_2 == 9) = false := beq_eq_false_iff_ne.mpr c15
                          have c15b1 : (x18_2 != 9) = true := bne_iff_ne.mpr c15
                          by_cases c19 : x18_2 > 0
                          · rw [if_pos c19] at H
                            have c19b0 : decide (0 < x18_2) = true := decide_eq_true c19
                            clear c19
                            by_cases c20 : (rd l0 (ji8)) = 0
                            · rw [if_pos c20] at H
                              have c20b0 : ((rd l0 (ji8)) == 0) = true := beq_iff_eq.mpr c20
                              have c20b1 : ((rd l0 (ji8)) != 0) = false := bne_eq_false_iff_eq.mpr c20
                              clear c20
                              simp only [Option.some.injEq, Prod.mk.injEq] at H
                              obtain ⟨rfl, rfl, rfl⟩ := H
                              have p302 : 0 ≤ ((ji8) : Int) := of_decide_eq_true (by first | (with_reducible assumption) | assumption)
                              have q302 : (ji8) < (l0.length : Int) := of_decide_eq_true (by first | (with_reducible assumption) | assumption)
                              obtain ⟨ad302, e302, hx302_0⟩ := Kd.at_int HR0.out (ji8) p302 q302
                              cases e302
                              replace p302 := eq_true p302
                              replace q302 := eq_true q302
                              go_wp2
                              go_ret3
                              exact ⟨by first | rfl | (simp; done) | (simp only [← hji8, ← hji11, ← hji13] <;> (first | rfl | simp)) | (simp [*]; done), by repeat (first | exact Drawn0.refl _ | apply Drawn0.step)⟩
                            · rw [if_neg c20] at H
                              have c20b0 : ((rd l0 (ji8)) == 0) = false := beq_eq_false_iff_ne.mpr c20
                              have c20b1 : ((rd l0 (ji8)) != 0) = true := bne_iff_ne.mpr c20
                              simp only [Option.some.injEq, Prod.mk.injEq] at H
                              obtain ⟨rfl, rfl, rfl⟩ := H
                              have p302 : 0 ≤ ((ji8) : Int) := of_decide_eq_true (by first | (with_reducible assumption) | assumption)
                              have q302 : (ji8) < (l0.length : Int) := of_decide_eq_true (by first | (with_reducible assumption) | assumption)
                              obtain ⟨ad302, e302, hx302_0⟩ := Kd.at_int HR0.out (ji8) p302 q302
                              cases e302
                              replace p302 := eq_true p302
                              replace q302 := eq_true q302
                              go_wp2
                              go_ret3
                              exact ⟨by first | rfl | (simp; done) | (simp only [← hji8, ← hji11, ← hji13] <;> (first | rfl | simp)) | (simp [*]; done), by repeat (first | exact Drawn0.refl _ | apply Drawn0.step)⟩
                          · rw [if_neg c19] at H
                            have c19b0 : decide (0 < x18_2) = false := decide_eq_false c19
                            clear c19
                            simp only [Option.some.injEq, Prod.mk.injEq] at H
                            obtain ⟨rfl, rfl, rfl⟩ := H
                            have p302 : 0 ≤ ((ji8) : Int) := of_decide_eq_true (by first | (with_reducible assumption) | assumption)
                            have q302 : (ji8) < (l0.length : Int) := of_decide_eq_true (by first | (with_reducible assumption) | assumption)
                            obtain ⟨ad302, e302, hx302_0⟩ := Kd.at_int HR0.out (ji8) p302 q302
                            cases e302
                            replace p302 := eq_true p302
                            replace q302 := eq_true q302
                            go_wp2
                            go_ret3
                            exact ⟨by first | rfl | (simp; done) | (simp only [← hji8, ← hji11, ← hji13] <;> (first | rfl | simp)) | (simp [*]; done), by repeat (first | exact Drawn0.refl _ | apply Drawn0.step)⟩
                    · rw [if_neg c12] at H
                      exact absurd H (by simp)
                  · rw [if_neg c10] at H
                    exact absurd H (by simp)
                · rw [if_neg c9] at H
                  exact absurd H (by simp)
            · rw [if_neg c6] at H
              have c6b0 : decide (x18_2 < 10) = false := decide_eq_false c6
              clear c6
              simp only [Option.some.injEq, Prod.mk.injEq] at H
              obtain ⟨rfl, rfl, rfl⟩ := H
              go_wp2
              go_ret3
              exact ⟨by first | rfl | (simp; done) | (simp [*]; done), by repeat (first | exact Drawn0.refl _ | apply Drawn0.step)⟩

/-! ### packet_near: function 33 -/
def packet_near.f (a0 : Int) (a1 : Int) : Option (Int) := some (wrap64 (a0 + (mn (mx a1 (-4398046511104)) 4398046511104)))
set_option maxHeartbeats 8000000 in
set_option maxRecDepth 100000 in
theorem packet_near.calls (a0 : Int) (a1 : Int) (r : Int) (w : World) (h : packet_near.f a0 a1 = some r) :
    Calls Try.prog 33 #[.int .i64 a0, .int .i64 a1] w fun e w' => e = .returned (.int .i64 r) ∧ Below w.heap.size w w' := by
  have HB := Aside0.mk (Below.refl w.heap.size w)
  have H : (some (wrap64 (a0 + (mn (mx a1 (-4398046511104)) 4398046511104)))) = some r := h
  clear h
  obtain ⟨ji3, hji3⟩ : ∃ j_ : Int, (mx a1 (-4398046511104)) = j_ := ⟨_, rfl⟩
  replace H : (some (wrap64 (a0 + (mn (ji3) 4398046511104)))) = some r := by first | (rw [hji3] at H; exact H) | (simp only [hji3] at H ⊢; exact H)
  have hji3_ : (if a1 < (-4398046511104) then (-4398046511104) else a1) = ji3 := hji3
  obtain ⟨ji4, hji4⟩ : ∃ j_ : Int, (mn (ji3) 4398046511104) = j_ := ⟨_, rfl⟩
  replace H : (some (wrap64 (a0 + (ji4)))) = some r := by first | (rw [hji4] at H; exact H) | (simp only [hji4] at H ⊢; exact H)
  have hji4_ : (if 4398046511104 < (ji3) then 4398046511104 else (ji3)) = ji4 := hji4
  obtain rfl := Option.some.inj H
  go_enter Try.func33, Try.ntmps33
  go_wp2
  go_ret
  exact ⟨by first | rfl | (simp [errW_none, errW_some] <;> rfl) | (simp only [← hji3, ← hji4]; first | rfl | (simp [errW_none, errW_some] <;> rfl)) | (simp [*, errW_none, errW_some] <;> rfl), by repeat (first | (with_reducible first | exact HB.out | apply below_alloc | apply pw_below_drewN | apply below_drew1) | exact HB.out)⟩

/-! ### packet_Decode: function 20 -/
def packet_Decode.l0 : Nat → List Int → Int → Int → Int → Int → Int → List S25 → Option (List S25 × Int)
  | 0, _, _, _, _, _, _, _ => none
  | k + 1, b, n, i, p0, p, q, out => if i < n then ((codec_Int.f k b p0).bind fun t => (if t.2.2 = 0 then ((codec_Int.f k b t.2.1).bind fun u => (if u.2.2 = 0 then ((packet_near.f p t.1).bind fun x => ((packet_near.f q u.1).bind fun y => ((packet_valid.f x y).bind fun v => (if v = true then (if out.length < 8796093022208 then (packet_Decode.l0 k b n (wrap64 (i + 1)) u.2.1 x y (out ++ [(⟨x, y⟩ : S25)])) else none) else (some ([], 1)))))) else (some ([], u.2.2)))) else (some ([], t.2.2)))) else (if p0 = (b.length : Int) then (some (out, 0)) else (some ([], 3)))
def packet_Decode.in_ (l0 : List Int) : List Int := (l0.take ((l0.length : Int) - 4).toNat).drop (3 : Int).toNat
def packet_Decode.sums (l0 : List Int) : Bool := (List.range 4).all fun j => rd l0 ((l0.length : Int) - 4 + (j : Nat)) == shr .u32 (X.crc (l0.take ((l0.length : Int) - 4).toNat)) (8 * ((j : Nat) : Int)) % 256
def packet_Decode.f (k : Nat) (l0 : List Int) : Option (List S25 × Int) := if l0.length < 7 then (some ([], 2)) else (if l0.length ≤ 1000000 then (if (strOfNums (l0.take 3)).toList = [84, 83, 49] then (if packet_Decode.sums l0 = true then ((codec_Int.f k (packet_Decode.in_ l0) 0).bind fun t => (if t.2.2 = 0 then (if t.1 < 0 ∨ 2000 < t.1 then (some ([], 4)) else (packet_Decode.l0 k (packet_Decode.in_ l0) t.1 0 t.2.1 0 0 [])) else (some ([], t.2.2)))) else (some ([], 5))) else (some ([], 3))) else none)
theorem packet_Decode.mono_l : ∀ k a b c d e f g, LeO (packet_Decode.l0 k a b c d e f g) (packet_Decode.l0 (k + 1) a b c d e f g)
  | 0, _, _, _, _, _, _, _ => fun r h => by simp [packet_Decode.l0] at h
  | k + 1, a, b, c, d, e, f, g => by
    rw [packet_Decode.l0, packet_Decode.l0]
    refine LeO.ite (LeO.bind (codec_Int.mono _ _ _) (fun _ => LeO.ite (LeO.bind (codec_Int.mono _ _ _) (fun _ => LeO.ite (LeO.bind (LeO.refl _) (fun _ => LeO.bind (LeO.refl _) (fun _ => LeO.bind (LeO.refl _) (fun _ => LeO.ite (LeO.ite (packet_Decode.mono_l k _ _ _ _ _ _ _) (LeO.refl _)) (LeO.refl _))))) (LeO.refl _))) (LeO.refl _))) (LeO.refl _)
theorem packet_Decode.mono : ∀ a0 k, LeO (packet_Decode.f k a0) (packet_Decode.f (k + 1) a0) := by
  intro a0 k
  unfold packet_Decode.f
  exact LeO.ite (LeO.refl _) (LeO.ite (LeO.ite (LeO.ite (LeO.bind (codec_Int.mono _ _ _) (fun _ => LeO.ite (LeO.ite (LeO.refl _) (packet_Decode.mono_l _ _ _ _ _ _ _ _)) (LeO.refl _))) (LeO.refl _)) (LeO.refl _)) (LeO.refl _))
theorem packet_Decode.calls (k : Nat) (A0 : Option Addr) (c0 : Nat) (l0 : List Int) (r1 : List S25) (r2 : Int) (w : World) (hr0 : Kd.C (Kd.int .u8) w A0 l0.length l0) (hc0 : l0.length ≤ c0) (h : packet_Decode.f k l0 = some (r1, r2)) :
    Calls Try.prog 20 #[.slice A0 l0.length c0] w fun e w' => ∃ v0_ : Value, e = .returned (.tuple #[v0_, .int .i64 r2]) ∧ Kd.R k25 25 w' w.heap.size (fun _ => True) v0_ r1 ∧ Below w.heap.size w w' := by
  unfold packet_Decode.f at h
  by_cases h1 : l0.length < 7
  · rw [if_pos h1] at h
    cases h
    exact (X.decode_err A0 c0 l0 w 2 (by decide) ⟨(X.opened_short A0 c0 l0 w h1).mono fun e w' ⟨e1, e2⟩ => ⟨e1, by rw [e2]; exact Below.refl _ _⟩⟩).mono fun e w' ⟨e1, e2⟩ => ⟨_, e1, Kd.R_nil _ _ _ _ _, e2⟩
  rw [if_neg h1] at h
  by_cases h2 : l0.length ≤ 1000000
  · rw [if_pos h2] at h
    by_cases h3 : (strOfNums (l0.take 3)).toList = [84, 83, 49]
    · rw [if_pos h3] at h
      obtain ⟨A1, c1, hc1, hC, ho⟩ := X.opened_ok A0 c0 l0 w hr0 hc0 (by omega) h2 h3
      by_cases h4 : packet_Decode.sums l0 = true
      · rw [if_pos h4] at h
        have h4' : ∀ j : Nat, j < 4 → rd l0 ((l0.length : Int) - 4 + j) = shr .u32 (X.crc (l0.take ((l0.length : Int) - 4).toNat)) (8 * (j : Int)) % 256 := fun j hj => by
          have := (List.all_eq_true.1 h4) j (List.mem_range.2 hj)
          exact beq_iff_eq.1 this
        have ho' : Calls Try.prog 31 #[.slice A0 l0.length c0] w fun e w' => e = .returned (.tuple #[.slice A1 (packet_Decode.in_ l0).length c1, .int .i64 0]) ∧ Below w.heap.size w w' := ho.mono fun e w' ⟨hb, hh⟩ => by
          rcases hh with ⟨j, hj, hne, _⟩ | ⟨_, e1⟩
          · exact absurd (h4' j hj) hne
          · exact ⟨e1, hb⟩
        have hrI : Kd.C (Kd.int .u8) w A1 (packet_Decode.in_ l0).length (packet_Decode.in_ l0) := hC w hr0
        have hcI : (packet_Decode.in_ l0).length ≤ c1 := hc1
        obtain ⟨⟨n, p0, e0⟩, ht, H⟩ := Option.bind_eq_some_iff.mp h
        have hI : X.IntAt A1 c1 (packet_Decode.in_ l0) 0 n p0 e0 := fun W hW => codec_Int.calls k A1 c1 (packet_Decode.in_ l0) 0 n p0 e0 W hW hcI ht
        replace H : (if e0 = 0 then (if n < 0 ∨ 2000 < n then (some ([], 4)) else (packet_Decode.l0 k (packet_Decode.in_ l0) n 0 p0 0 0 [])) else (some ([], e0))) = some (r1, r2) := H
        by_cases h5 : e0 = 0
        · rw [if_pos h5] at H
          by_cases h6 : n < 0 ∨ 2000 < n
          · rw [if_pos h6] at H
            cases H
            refine (X.decode_count A0 c0 l0 w A1 c1 (packet_Decode.in_ l0) n p0 e0 (.inr h6) ⟨ho'⟩ hrI hI).mono fun e w' ⟨e1, e2⟩ => ⟨_, ?_, Kd.R_nil _ _ _ _ _, e2⟩
            rw [e1, if_pos h5]
          · rw [if_neg h6] at H
            subst h5
            have d1 : decide (n < 0) = false := decide_eq_false (by omega)
            have d2 : decide (2000 < n) = false := decide_eq_false (by omega)
            have HA0 := Aside0.mk H
            have HI := Aside0.mk hI
            have HO1 := Aside0.mk ho'
            clear H ho ho' h hI ht h4' h4 h3
            go_enter Try.func20, Try.ntmps20
            go_wp2_with (first | (go_at_call 31; refine HO1.out.mono ?_; rintro e w1 ⟨rfl, hb1⟩) | (go_at_call 32; refine (HI.out _ (Kd.C_below hrI hb1)).mono ?_; rintro e w2 ⟨rfl, nd, rfl⟩))
            have HG := Aside0.mk (show ((w1.drewN nd).alloc (Obj.cells #[.int .i64 0, .int .i64 0] 25)).heap[w1.heap.size]? = some (.cells #[.int .i64 0, .int .i64 0] 25 (0, 0)) from heap_alloc_new (w1.drewN nd) _)
            have HBx := Aside0.mk (show Below w.heap.size w ((w1.drewN nd).alloc (Obj.cells #[.int .i64 0, .int .i64 0] 25)) from by repeat (first | (with_reducible first | exact hb1 | apply below_alloc | apply pw_below_drewN | apply below_drew1) | exact hb1))
            have hg8 : w.heap.size ≤ w1.heap.size := below_size hb1
            generalize hW : (w1.drewN nd).alloc (Obj.cells #[.int .i64 0, .int .i64 0] 25) = W at *
            clear hW hb1
            generalize w1.heap.size = g8 at *
            go_loopg [35, 7, 6] k (fun kq v35 v7 v6 wx => ∃ (i pl p q : Int) (out : List S25), v35 = .int .i64 i ∧ v6 = .int .i64 pl ∧ Aside0 (packet_Decode.l0 kq (packet_Decode.in_ l0) n i pl p q out = some (r1, r2)) ∧ Aside0 (kq ≤ k) ∧ Aside0 (wx.heap[g8]? = some (.cells #[.int .i64 p, .int .i64 q] 25 (0, 0))) ∧ Aside0 (Kd.R k25 25 wx w.heap.size (fun k_ => k_ ≠ g8) v7 out) ∧ Aside0 (Below w.heap.size w wx))
            case atStart => exact ⟨0, p0, 0, 0, [], rfl, rfl, HA0, ⟨Nat.le_refl _⟩, HG, ⟨Kd.R_nil _ _ _ _ _⟩, HBx⟩
            case round =>
              clear HA0 HG HBx
              obtain ⟨i, pl, p, q, out, rfl, rfl, HA, HK, HGr, HOo, HBr⟩ := hrel
              cases gk with
              | zero => exact absurd HA.out (by simp [packet_Decode.l0])
              | succ k2 =>
                have H := HA.out
                clear HA
                simp only [packet_Decode.l0] at H
                by_cases hin : i < n
                · rw [if_pos hin] at H
                  have c1b : decide (i < n) = true := decide_eq_true hin
                  obtain ⟨⟨d0, t1, e1⟩, hi1, H⟩ := Option.bind_eq_some_iff.mp H
                  have HI1 := Aside0.mk hi1
                  clear hi1
                  dsimp only at H
                  have HCr := Aside0.mk (Kd.C_below hrI HBr.out)
                  have hws : w.heap.size ≤ wr.heap.size := below_size HBr.out
                  by_cases c3 : e1 = 0
                  · subst c3
                    rw [if_pos rfl] at H
                    obtain ⟨⟨d1, t2, e2⟩, hi2, H⟩ := Option.bind_eq_some_iff.mp H
                    have HI2 := Aside0.mk hi2
                    clear hi2
                    dsimp only at H
                    by_cases c4 : e2 = 0
                    · subst c4
                      rw [if_pos rfl] at H
                      go_wp2_with fail
                      refine wp_loop_rounds 3 ?_
                      rw [rounds_succ]
                      go_wp2_with (first | (go_at_call 32; refine (codec_Int.calls k2 A1 c1 (packet_Decode.in_ l0) pl d0 t1 0 _ (Kd.C_below hrI (by repeat (first | (with_reducible first | exact HBr.out | apply below_alloc | apply pw_below_drewN | apply below_drew1 | refine below_set ?_ hws) | exact HBr.out))) hcI HI1.out).mono ?_; rintro e w2 ⟨rfl, nd1, rfl⟩))
                      rw [rounds_succ]
                      go_wp2_with (first | (go_at_call 32; refine (codec_Int.calls k2 A1 c1 (packet_Decode.in_ l0) t1 d1 t2 0 _ (Kd.C_below hrI (by repeat (first | (with_reducible first | exact HBr.out | apply below_alloc | apply pw_below_drewN | apply below_drew1 | refine below_set ?_ hws) | exact HBr.out))) hcI HI2.out).mono ?_; rintro e w3 ⟨rfl, nd2, rfl⟩))
                      rw [rounds_succ]
                      go_wp2_with fail
                      obtain ⟨W3, hW3⟩ : ∃ W : World, W = (((((wr.alloc (Obj.cells #[.int .i64 0, .int .i64 0] 63)).drewN nd1).setCell ⟨wr.heap.size, 0, none⟩ (.int .i64 d0)).drewN nd2).setCell ⟨wr.heap.size, 1, none⟩ (.int .i64 d1)) := ⟨_, rfl⟩
                      have hne : g8 < wr.heap.size := blk_lt HGr.out
                      have HB3 := Aside0.mk (show Below w.heap.size w W3 from by rw [hW3]; repeat (first | (with_reducible first | exact HBr.out | apply below_alloc | apply pw_below_drewN | apply below_drew1 | refine below_set ?_ hws) | exact HBr.out))
                      have HG9 := Aside0.mk (show W3.heap[wr.heap.size]? = some (.cells #[.int .i64 d0, .int .i64 d1] 63 (0, 0)) from by rw [hW3]; refine blk_put (cs := #[.int .i64 d0, .int .i64 0]) ?_ 1 _ rfl; refine blk_drewN ?_ _; refine blk_put (cs := #[.int .i64 0, .int .i64 0]) ?_ 0 _ rfl; refine blk_drewN ?_ _; exact heap_alloc_new wr _)
                      have HG3 := Aside0.mk (show W3.heap[g8]? = some (.cells #[.int .i64 p, .int .i64 q] 25 (0, 0)) from by rw [hW3, heap_setCell_other _ _ _ _ (by simp; omega)]; refine blk_drewN ?_ _; rw [heap_setCell_other _ _ _ _ (by simp; omega)]; refine blk_drewN ?_ _; exact blk_alloc HGr.out _)
                      have HO3 := Aside0.mk (show Kd.R k25 25 W3 w.heap.size (fun k_ => k_ ≠ g8) u7 out from Kd.R_step HOo.out (fun k_ _ hk_ => by rw [hW3, heap_setCell_other _ _ _ _ (by simp; omega)]; show (World.setCell _ _ _).heap[k_]? = _; rw [heap_setCell_other _ _ _ _ (by simp; omega)]; exact Below.heap_alloc wr _ k_ hk_))
                      rw [← hW3]
                      clear hW3
                      obtain ⟨x, hx1, H⟩ := Option.bind_eq_some_iff.mp H
                      obtain ⟨y, hy1, H⟩ := Option.bind_eq_some_iff.mp H
                      obtain ⟨v, hv1, H⟩ := Option.bind_eq_some_iff.mp H
                      have HX1 := Aside0.mk hx1
                      have HX2 := Aside0.mk hy1
                      have HV := Aside0.mk hv1
                      clear hx1 hy1 hv1
                      have hfz0 := blk_frozen HG3.out 0
                      have hfz1 := blk_frozen HG3.out 1
                      have hcz0 : W3.cell? ⟨g8, 0, none⟩ = some (.int .i64 p) := (blk_cell HG3.out 0).trans rfl
                      have hcz1 : W3.cell? ⟨g8, 1, none⟩ = some (.int .i64 q) := (blk_cell HG3.out 1).trans rfl
                      refine start_ (n := 12) (S := fun w' => w'.cell? ⟨g8, 0, none⟩ = some (.int .i64 p) ∧ w'.cell? ⟨g8, 1, none⟩ = some (.int .i64 q) ∧ w'.cell? ⟨wr.heap.size, 0, none⟩ = some (.int .i64 d0) ∧ w'.cell? ⟨wr.heap.size, 1, none⟩ = some (.int .i64 d1)) (ds := [11]) #[false, false, false, false, false, false, false, false, false, false, false, false] (by kernel_rfl) rfl rfl ⟨(blk_cell HG3.out 0).trans rfl, (blk_cell HG3.out 1).trans rfl, (blk_cell HG9.out 0).trans rfl, (blk_cell HG9.out 1).trans rfl⟩ (fun hHeld => ?_)
                      refine pure_ (i := 0) (N := some 53) (v := ?_) (a' := ?_) #[true, false, false, false, false, false, false, false, false, false, false, false] rfl rfl (by kernel_rfl) (fun _ _ _ h => h) (Or.inl ⟨by rfl, ?_⟩) ?_ ?_
                      rotate_left
                      · intro w'
                        go_simp
                        with_reducible rfl
                      rotate_left
                      · simp only [Act.put, List.setIfInBounds_toArray, List.set_cons_zero, List.set_cons_succ, i64_w, i32_w]
                        rfl
                      refine pure_ (i := 2) (N := some 55) (v := ?_) (a' := ?_) #[true, false, true, false, false, false, false, false, false, false, false, false] rfl rfl (by kernel_rfl) (fun _ _ _ h => h) (Or.inl ⟨by rfl, ?_⟩) ?_ ?_
                      rotate_left
                      · intro w'
                        go_simp
                        with_reducible rfl
                      rotate_left
                      · simp only [Act.put, List.setIfInBounds_toArray, List.set_cons_zero, List.set_cons_succ, i64_w, i32_w]
                        rfl
                      refine pure_ (i := 5) (N := some 58) (v := ?_) (a' := ?_) #[true, false, true, false, false, true, false, false, false, false, false, false] rfl rfl (by kernel_rfl) (fun _ _ _ h => h) (Or.inl ⟨by rfl, ?_⟩) ?_ ?_
                      rotate_left
                      · intro w'
                        go_simp
                        with_reducible rfl
                      rotate_left
                      · simp only [Act.put, List.setIfInBounds_toArray, List.set_cons_zero, List.set_cons_succ, i64_w, i32_w]
                        rfl
                      refine pure_ (i := 7) (N := some 60) (v := ?_) (a' := ?_) #[true, false, true, false, false, true, false, true, false, false, false, false] rfl rfl (by kernel_rfl) (fun _ _ _ h => h) (Or.inl ⟨by rfl, ?_⟩) ?_ ?_
                      rotate_left
                      · intro w'
                        go_simp
                        with_reducible rfl
                      rotate_left
                      · simp only [Act.put, List.setIfInBounds_toArray, List.set_cons_zero, List.set_cons_succ, i64_w, i32_w]
                        rfl
                      refine take_ (i := 1) (N := some 54) (v := ?_) (a' := ?_) #[true, true, true, false, false, true, false, true, false, false, false, false] rfl rfl (by kernel_rfl) (fun _ _ _ h => h) (Or.inl ⟨by rfl, ?_⟩) hHeld ?_ ?_
                      rotate_left
                      · rintro w' ⟨s0, s1, s2, s3⟩
                        go_simp
                        with_reducible rfl
                      rotate_left
                      · simp only [Act.put, List.setIfInBounds_toArray, List.set_cons_zero, List.set_cons_succ, i64_w, i32_w]
                        rfl
                      refine take_ (i := 3) (N := some 56) (v := ?_) (a' := ?_) #[true, true, true, true, false, true, false, true, false, false, false, false] rfl rfl (by kernel_rfl) (fun _ _ _ h => h) (Or.inl ⟨by rfl, ?_⟩) hHeld ?_ ?_
                      rotate_left
                      · rintro w' ⟨s0, s1, s2, s3⟩
                        go_simp
                        with_reducible rfl
                      rotate_left
                      · simp only [Act.put, List.setIfInBounds_toArray, List.set_cons_zero, List.set_cons_succ, i64_w, i32_w]
                        rfl
                      refine take_ (i := 6) (N := some 59) (v := ?_) (a' := ?_) #[true, true, true, true, false, true, true, true, false, false, false, false] rfl rfl (by kernel_rfl) (fun _ _ _ h => h) (Or.inl ⟨by rfl, ?_⟩) hHeld ?_ ?_
                      rotate_left
                      · rintro w' ⟨s0, s1, s2, s3⟩
                        go_simp
                        with_reducible rfl
                      rotate_left
                      · simp only [Act.put, List.setIfInBounds_toArray, List.set_cons_zero, List.set_cons_succ, i64_w, i32_w]
                        rfl
                      refine take_ (i := 8) (N := some 61) (v := ?_) (a' := ?_) #[true, true, true, true, false, true, true, true, true, false, false, false] rfl rfl (by kernel_rfl) (fun _ _ _ h => h) (Or.inl ⟨by rfl, ?_⟩) hHeld ?_ ?_
                      rotate_left
                      · rintro w' ⟨s0, s1, s2, s3⟩
                        go_simp
                        with_reducible rfl
                      rotate_left
                      · simp only [Act.put, List.setIfInBounds_toArray, List.set_cons_zero, List.set_cons_succ, i64_w, i32_w]
                        rfl
                      refine one_ (i := 4) (N := some 57) #[true, true, true, true, true, true, true, true, true, false, false, false] rfl rfl (by kernel_rfl) (by decide) (fun K hK => ?_)
                      refine goes_ Try.func33 (by kernel_rfl) rfl #[.int .i64 p, .int .i64 d0] (by rfl) rfl rfl (by simp only [List.map_toArray, List.map_cons, List.map_nil]; rfl) ?_
                      with_reducible refine (packet_near.calls p d0 x _ HX1.out).mono ?_
                      rintro e w4 ⟨rfl, hb_nd3⟩
                      refine ⟨_, rfl, ?_⟩
                      refine hK.out _ _ ⟨((hb_nd3.cell (World.block_lt_of_cell? _ _ hHeld.1)).trans hHeld.1), ((hb_nd3.cell (World.block_lt_of_cell? _ _ hHeld.2.1)).trans hHeld.2.1), ((hb_nd3.cell (World.block_lt_of_cell? _ _ hHeld.2.2.1)).trans hHeld.2.2.1), ((hb_nd3.cell (World.block_lt_of_cell? _ _ hHeld.2.2.2)).trans hHeld.2.2.2)⟩ (fun hHeld => ?_)
                      clear hK K
                      refine norm_ (a' := ?_) ?_ ?_
                      rotate_left
                      · show Act.put _ (some 57) _ = _
                        simp only [Act.put, List.setIfInBounds_toArray, List.set_cons_zero, List.set_cons_succ, i64_w, i32_w]
                        rfl
                      refine one_ (i := 9) (N := some 62) #[true, true, true, true, true, true, true, true, true, true, false, false] rfl rfl (by kernel_rfl) (by decide) (fun K hK => ?_)
                      refine goes_ Try.func33 (by kernel_rfl) rfl #[.int .i64 q, .int .i64 d1] (by rfl) rfl rfl (by simp only [List.map_toArray, List.map_cons, List.map_nil]; rfl) ?_
                      with_reducible refine (packet_near.calls q d1 y _ HX2.out).mono ?_
                      rintro e w5 ⟨rfl, hb_nd4⟩
                      refine ⟨_, rfl, ?_⟩
                      refine hK.out _ _ ⟨((hb_nd4.cell (World.block_lt_of_cell? _ _ hHeld.1)).trans hHeld.1), ((hb_nd4.cell (World.block_lt_of_cell? _ _ hHeld.2.1)).trans hHeld.2.1), ((hb_nd4.cell (World.block_lt_of_cell? _ _ hHeld.2.2.1)).trans hHeld.2.2.1), ((hb_nd4.cell (World.block_lt_of_cell? _ _ hHeld.2.2.2)).trans hHeld.2.2.2)⟩ (fun hHeld => ?_)
                      clear hK K
                      refine norm_ (a' := ?_) ?_ ?_
                      rotate_left
                      · show Act.put _ (some 62) _ = _
                        simp only [Act.put, List.setIfInBounds_toArray, List.set_cons_zero, List.set_cons_succ, i64_w, i32_w]
                        rfl
                      refine pure_ (i := 10) (N := some 63) (v := ?_) (a' := ?_) #[true, true, true, true, true, true, true, true, true, true, true, false] rfl rfl (by kernel_rfl) (fun _ _ _ h => h) (Or.inl ⟨by rfl, ?_⟩) ?_ ?_
                      rotate_left
                      · intro w'
                        go_simp
                        with_reducible rfl
                      rotate_left
                      · simp only [Act.put, List.setIfInBounds_toArray, List.set_cons_zero, List.set_cons_succ, i64_w, i32_w]
                        rfl
                      refine last_ (i := 11) (N := none) #[true, true, true, true, true, true, true, true, true, true, true, true] rfl rfl (by kernel_rfl) (by decide) (fun K hK => ?_)
                      have HG5 := Aside0.mk (blk_below (blk_below (show W3.drew.heap[g8]? = _ from HG3.out) hb_nd3) hb_nd4)
                      have HB5 := Aside0.mk (below_step (below_step (below_drew1 HB3.out) hb_nd3) hb_nd4)
                      have HO5 := Aside0.mk (Kd.R_below (Kd.R_below (Kd.R_drew HO3.out) hb_nd3) hb_nd4)
                      have hfr0 := blk_frozen HG5.out 0
                      have hfr1 := blk_frozen HG5.out 1
                      refine skip_ (w1 := ?_) (by rfl) rfl ?_ ?_
                      rotate_left
                      · go_simp
                        rfl
                      refine hK.out _ _ ?_
                      clear hK K
                      refine done_ (by kernel_rfl) ?_
                      obtain ⟨W5, hW5⟩ : ∃ W : World, W = ((w5.setCell ⟨g8, 0, none⟩ (.int .i64 x)).setCell ⟨g8, 1, none⟩ (.int .i64 y)) := ⟨_, rfl⟩
                      have HG6 := Aside0.mk (show W5.heap[g8]? = some (.cells #[.int .i64 x, .int .i64 y] 25 (0, 0)) from by rw [hW5]; exact blk_put (cs := #[.int .i64 x, .int .i64 q]) (blk_put (cs := #[.int .i64 p, .int .i64 q]) HG5.out 0 _ rfl) 1 _ rfl)
                      have HB6 := Aside0.mk (show Below w.heap.size w W5 from by rw [hW5]; exact below_set (below_set HB5.out hg8) hg8)
                      have HO6 := Aside0.mk (show Kd.R k25 25 W5 w.heap.size (fun k_ => k_ ≠ g8) u7 out from by rw [hW5]; exact Kd.R_far (Kd.R_far HO5.out (fun _ h_ => h_) _) (fun _ h_ => h_) _)
                      rw [← hW5]
                      clear hW5 hHeld hfr0 hfr1 hcz0 hcz1 hfz0 hfz1 hb_nd3 hb_nd4
                      have hcy0 : W5.cell? ⟨g8, 0, none⟩ = some (.int .i64 x) := (blk_cell HG6.out 0).trans rfl
                      have hcy1 : W5.cell? ⟨g8, 1, none⟩ = some (.int .i64 y) := (blk_cell HG6.out 1).trans rfl
                      cases v with
                      | false =>
                        rw [if_neg (by decide)] at H
                        cases H
                        go_wp2_with (first | (go_at_call 24; refine (packet_valid.calls x y false _ HV.out).mono ?_; rintro e w6 ⟨rfl, hb6⟩))
                        go_ret2
                        exact ⟨_, rfl, Kd.R_nil _ _ _ _ _, below_step HB6.out hb6⟩
                      | true =>
                        rw [if_pos rfl] at H
                        by_cases hol : out.length < 8796093022208
                        · rw [if_pos hol] at H
                          have HA2 := Aside0.mk H
                          clear H
                          have HL := Aside0.mk hol
                          clear hol
                          go_wp2_with (first | (go_at_call 24; refine (packet_valid.calls x y true _ HV.out).mono ?_; rintro e w6 ⟨rfl, hb6⟩; have HG7 := Aside0.mk (blk_below HG6.out hb6); have HO7 := Aside0.mk (Kd.R_below HO6.out hb6); have HB7 := Aside0.mk (below_step HB6.out hb6); have hcx0 : w6.cell? ⟨g8, 0, none⟩ = some (.int .i64 x) := (blk_cell HG7.out 0).trans rfl; have hcx1 : w6.cell? ⟨g8, 1, none⟩ = some (.int .i64 y) := (blk_cell HG7.out 1).trans rfl; clear hb6) | (at_builtin; refine Kd.R_append k25 (w0 := w) w.heap.size rfl (.tmp 67) (.tmp 69) 23 25 (.agg #[(.int .i64 0), (.int .i64 0)]) 16 rfl Try.underlying23 info25 rfl (by decide) (by omega) u7 out (⟨x, y⟩ : S25) [.int .i64 x, .int .i64 y] (fun k_ => k_ ≠ g8) (fun _ => False) rfl rfl ?aP (fun _ hk => hk.elim) ?aF ?aO ?aB ?aS ?aL ?_; (case aP => exact k25_mkM _ _ _ (⟨x, y⟩ : S25)); (case aF => exact fun k_ hk_ => by have := blk_lt HG7.out; omega); (case aO => exact HO7.out); (case aB => exact HB7.out); (case aS => exact below_size HB7.out); (case aL => have := HL.out; omega); intro v1 w7 ho hb hg hat; have HG8 := Aside0.mk ((hg.block g8 (blk_lt HG7.out) (fun e_ => HO7.out.1 g8 e_.symm rfl)).trans HG7.out); have HO8 := Aside0.mk ho; have HB8 := Aside0.mk hb; clear ho hb hg hat))
                          go_roundg k2
                          case measure => omega
                          case rel => exact ⟨_, _, x, y, _, rfl, rfl, HA2, ⟨by have := HK.out; omega⟩, HG8, HO8, HB8⟩
                        · rw [if_neg hol] at H
                          cases H
                    · rw [if_neg c4] at H
                      cases H
                      have c4b : (r2 != 0) = true := bne_iff_ne.mpr c4
                      go_wp2_with fail
                      refine wp_loop_rounds 3 ?_
                      rw [rounds_succ]
                      go_wp2_with (first | (go_at_call 32; refine (codec_Int.calls k2 A1 c1 (packet_Decode.in_ l0) pl d0 t1 0 _ (Kd.C_below hrI (by repeat (first | (with_reducible first | exact HBr.out | apply below_alloc | apply pw_below_drewN | apply below_drew1 | refine below_set ?_ hws) | exact HBr.out))) hcI HI1.out).mono ?_; rintro e w2 ⟨rfl, nd1, rfl⟩))
                      rw [rounds_succ]
                      go_wp2_with (first | (go_at_call 32; refine (codec_Int.calls k2 A1 c1 (packet_Decode.in_ l0) t1 d1 t2 r2 _ (Kd.C_below hrI (by repeat (first | (with_reducible first | exact HBr.out | apply below_alloc | apply pw_below_drewN | apply below_drew1 | refine below_set ?_ hws) | exact HBr.out))) hcI HI2.out).mono ?_; rintro e w3 ⟨rfl, nd2, rfl⟩))
                      go_ret2
                      exact ⟨_, rfl, Kd.R_nil _ _ _ _ _, by repeat (first | (with_reducible first | exact HBr.out | apply below_alloc | apply pw_below_drewN | apply below_drew1 | refine below_set ?_ hws) | exact HBr.out)⟩
                  · rw [if_neg c3] at H
                    cases H
                    have c3b : (r2 != 0) = true := bne_iff_ne.mpr c3
                    go_wp2_with fail
                    refine wp_loop_rounds 3 ?_
                    rw [rounds_succ]
                    go_wp2_with (first | (go_at_call 32; refine (codec_Int.calls k2 A1 c1 (packet_Decode.in_ l0) pl d0 t1 r2 _ (Kd.C_below hrI (by repeat (first | (with_reducible first | exact HBr.out | apply below_alloc | apply pw_below_drewN | apply below_drew1 | refine below_set ?_ hws) | exact HBr.out))) hcI HI1.out).mono ?_; rintro e w2 ⟨rfl, nd1, rfl⟩))
                    go_ret2
                    exact ⟨_, rfl, Kd.R_nil _ _ _ _ _, by repeat (first | (with_reducible first | exact HBr.out | apply below_alloc | apply pw_below_drewN | apply below_drew1 | refine below_set ?_ hws) | exact HBr.out)⟩
                · rw [if_neg hin] at H
                  have c1b : decide (i < n) = false := decide_eq_false hin
                  by_cases c2 : pl = ((packet_Decode.in_ l0).length : Int)
                  · rw [if_pos c2] at H
                    cases H
                    have c2b : (pl != ((packet_Decode.in_ l0).length : Int)) = false := bne_eq_false_iff_eq.mpr c2
                    go_wp2_with fail
                    go_ret2
                    exact ⟨_, rfl, Kd.R_mono HOo.out (fun _ _ => trivial), HBr.out⟩
                  · rw [if_neg c2] at H
                    cases H
                    have c2b : (pl != ((packet_Decode.in_ l0).length : Int)) = true := bne_iff_ne.mpr c2
                    go_wp2_with fail
                    go_ret2
                    exact ⟨_, rfl, Kd.R_nil _ _ _ _ _, HBr.out⟩
        · rw [if_neg h5] at H
          cases H
          refine (X.decode_count A0 c0 l0 w A1 c1 (packet_Decode.in_ l0) n p0 _ (.inl h5) ⟨ho'⟩ hrI hI).mono fun e w' ⟨e1, e2⟩ => ⟨_, ?_, Kd.R_nil _ _ _ _ _, e2⟩
          rw [e1, if_neg h5]
      · rw [if_neg h4] at h
        cases h
        refine (X.decode_err A0 c0 l0 w 5 (by decide) ⟨ho.mono fun e w' ⟨hb, hh⟩ => ?_⟩).mono fun e w' ⟨e1, e2⟩ => ⟨_, e1, Kd.R_nil _ _ _ _ _, e2⟩
        rcases hh with ⟨j, hj, hne, e1⟩ | ⟨hall, _⟩
        · exact ⟨e1, hb⟩
        · refine absurd (List.all_eq_true.2 fun j hj => ?_) h4
          exact beq_iff_eq.2 (hall j (List.mem_range.1 hj))
    · rw [if_neg h3] at h
      cases h
      exact (X.decode_err A0 c0 l0 w 3 (by decide) ⟨(X.opened_form A0 c0 l0 w hr0 hc0 (by omega) h2 h3).mono fun e w' ⟨e1, e2⟩ => ⟨e1, by rw [e2]; exact Below.refl _ _⟩⟩).mono fun e w' ⟨e1, e2⟩ => ⟨_, e1, Kd.R_nil _ _ _ _ _, e2⟩
  · rw [if_neg h2] at h
    cases h

end Go.Proofs.Ytgmiilolikbekaa.PPacketAnswers
