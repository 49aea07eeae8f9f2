/- This file proves, function by function, what the Go functions that one law uses compute; most of it was printed by a program (wip/tools of this session, over the kit's print). -/
import Derived.Test.YtemeojkmchgkjaaPCodecAnswersx0
namespace Go.Proofs.Ytemeojkmchgkjaa.PCodecAnswers
open Go.RowKit Go.Proofs.YtemeojkmchgkjaaW.PrintWords Go.Proofs.YtemeojkmchgkjaaW.PrintLast Go.Proofs.YtemeojkmchgkjaaW.PrintMore
attribute [local go_sem] max2_int min2_int max_two min_two max_three min_three max_four min_four   -- for this text's walks alone
set_option linter.unusedVariables false
set_option linter.unusedSimpArgs false

/-! ### shapesearchref03_Width: function 22 -/
mutual
def shapesearchref03_Width.l0 : Nat → List Int → Int → Int → Int → Option (Int)
  | 0, _, _, _, _ => none
  | k + 1, x0, x3, x6, x7 => if x7 < x6 then (if 0 ≤ x7 then (if x7 < (x0.length : Int) then (if (rd x0 x7) < 0 then (shapesearchref03_Width.j1 k x0 x3 x7 x6 x7 true) else (shapesearchref03_Width.j1 k x0 x3 x7 x6 x7 (decide ((rd x0 x7) > 4294967295)))) else (none)) else (none)) else (some x3)
def shapesearchref03_Width.j1 : Nat → List Int → Int → Int → Int → Int → Bool → Option (Int)
  | 0, _, _, _, _, _, _ => none
  | k + 1, x0, x3, x4, x6, x7, x21 => if x21 = true then (some (-1)) else (shapesearchref03_Width.l1 k x0 x3 x4 x6 x7)
def shapesearchref03_Width.l1 : Nat → List Int → Int → Int → Int → Int → Option (Int)
  | 0, _, _, _, _, _ => none
  | k + 1, x0, x3, x4, x6, x7 => if 0 ≤ x4 then (if x4 < (x0.length : Int) then (if 0 ≤ x3 then (if (rd x0 x4) ≥ (shl .i64 1 x3) then (shapesearchref03_Width.l1 k x0 (wrap64 (x3 + 1)) x4 x6 x7) else (shapesearchref03_Width.l0 k x0 x3 x6 (wrap64 (x7 + 1)))) else (none)) else (none)) else (none)
end
def shapesearchref03_Width.f (k : Nat) (l0 : List Int) : Option (Int) := shapesearchref03_Width.l0 k l0 0 (l0.length : Int) 0
theorem shapesearchref03_Width.mono_l : ∀ k, (∀ y0 y1 y2 y3, LeO (shapesearchref03_Width.l0 k y0 y1 y2 y3) (shapesearchref03_Width.l0 (k + 1) y0 y1 y2 y3)) ∧ (∀ y0 y1 y2 y3 y4 y5, LeO (shapesearchref03_Width.j1 k y0 y1 y2 y3 y4 y5) (shapesearchref03_Width.j1 (k + 1) y0 y1 y2 y3 y4 y5)) ∧ (∀ y0 y1 y2 y3 y4, LeO (shapesearchref03_Width.l1 k y0 y1 y2 y3 y4) (shapesearchref03_Width.l1 (k + 1) y0 y1 y2 y3 y4))
  | 0 => ⟨fun _ _ _ _ r h => by simp [shapesearchref03_Width.l0] at h, fun _ _ _ _ _ _ r h => by simp [shapesearchref03_Width.j1] at h, fun _ _ _ _ _ r h => by simp [shapesearchref03_Width.l1] at h⟩
  | k + 1 => by
    obtain ⟨ih0, ih1, ih2⟩ := shapesearchref03_Width.mono_l k
    refine ⟨?_, ?_, ?_⟩
    · intro y0 y1 y2 y3
      unfold shapesearchref03_Width.l0
      repeat' first
      | (with_reducible exact ih0 _ _ _ _)
      | (with_reducible exact ih1 _ _ _ _ _ _)
      | (with_reducible exact ih2 _ _ _ _ _)
      | (with_reducible exact LeO.refl _)
      | (with_reducible exact LeO.none _)
      | (with_reducible refine LeO.ite ?_ ?_)
      | (with_reducible refine LeO.bind ?_ (fun _ => ?_))
      | exact ih0 _ _ _ _
      | exact ih1 _ _ _ _ _ _
      | exact ih2 _ _ _ _ _
      | exact LeO.none _
      | refine LeO.ite ?_ ?_
      | refine LeO.bind ?_ (fun _ => ?_)
    · intro y0 y1 y2 y3 y4 y5
      unfold shapesearchref03_Width.j1
      repeat' first
      | (with_reducible exact ih0 _ _ _ _)
      | (with_reducible exact ih1 _ _ _ _ _ _)
      | (with_reducible exact ih2 _ _ _ _ _)
      | (with_reducible exact LeO.refl _)
      | (with_reducible exact LeO.none _)
      | (with_reducible refine LeO.ite ?_ ?_)
      | (with_reducible refine LeO.bind ?_ (fun _ => ?_))
      | exact ih0 _ _ _ _
      | exact ih1 _ _ _ _ _ _
      | exact ih2 _ _ _ _ _
      | exact LeO.none _
      | refine LeO.ite ?_ ?_
      | refine LeO.bind ?_ (fun _ => ?_)
    · intro y0 y1 y2 y3 y4
      unfold shapesearchref03_Width.l1
      repeat' first
      | (with_reducible exact ih0 _ _ _ _)
      | (with_reducible exact ih1 _ _ _ _ _ _)
      | (with_reducible exact ih2 _ _ _ _ _)
      | (with_reducible exact LeO.refl _)
      | (with_reducible exact LeO.none _)
      | (with_reducible refine LeO.ite ?_ ?_)
      | (with_reducible refine LeO.bind ?_ (fun _ => ?_))
      | exact ih0 _ _ _ _
      | exact ih1 _ _ _ _ _ _
      | exact ih2 _ _ _ _ _
      | exact LeO.none _
      | refine LeO.ite ?_ ?_
      | refine LeO.bind ?_ (fun _ => ?_)
theorem shapesearchref03_Width.mono : ∀ a0 k, LeO (shapesearchref03_Width.f k a0) (shapesearchref03_Width.f (k + 1) a0) := by
  intro a0 k
  obtain ⟨ih0, ih1, ih2⟩ := shapesearchref03_Width.mono_l k
  unfold shapesearchref03_Width.f
  repeat' first
      | (with_reducible exact ih0 _ _ _ _)
      | (with_reducible exact ih1 _ _ _ _ _ _)
      | (with_reducible exact ih2 _ _ _ _ _)
      | (with_reducible exact LeO.refl _)
      | (with_reducible exact LeO.none _)
      | (with_reducible refine LeO.ite ?_ ?_)
      | (with_reducible refine LeO.bind ?_ (fun _ => ?_))
      | exact ih0 _ _ _ _
      | exact ih1 _ _ _ _ _ _
      | exact ih2 _ _ _ _ _
      | exact LeO.none _
      | refine LeO.ite ?_ ?_
      | refine LeO.bind ?_ (fun _ => ?_)
set_option maxHeartbeats 8000000 in
set_option maxRecDepth 100000 in
theorem shapesearchref03_Width.calls (k : Nat) (A0 : Option Addr) (c0 : Nat) (l0 : List Int) (r : Int) (w : World) (hr0 : Kd.C (Kd.int .i64) w A0 l0.length l0) (hc0 : l0.length ≤ c0) (h : shapesearchref03_Width.f k l0 = some r) :
    Calls Try.prog 22 #[.slice A0 l0.length c0] w fun e w' => e = .returned (.int .i64 r) ∧ Drawn0 w w' := by
  have HR0 := Aside0.mk hr0
  have HC0 := Aside0.mk hc0
  clear hr0 hc0
  have H : (shapesearchref03_Width.l0 k l0 0 (l0.length : Int) 0) = some r := h
  clear h
  have H' := Aside0.mk H
  clear H
  go_enter Try.func22, Try.ntmps22
  go_wp2
  repeat (go_quiet (fail); try go_wp2)
  go_loopg [3, 7] k (fun kq v3 v7 w' => ∃ (x3_1 : Int) (x7_1 : Int), v3 = .int .i64 x3_1 ∧ v7 = .int .i64 x7_1 ∧ Aside0 (shapesearchref03_Width.l0 kq l0 x3_1 (l0.length : Int) x7_1 = some r) ∧ Aside0 (kq ≤ k) ∧ Drawn0 w w')
  case atStart => exact ⟨(0), (0), (by first | rfl | (simp; done) | (simp [*]; done)), (by first | rfl | (simp; done) | (simp [*]; done)), H', ⟨Nat.le_refl _⟩, by repeat (first | exact Drawn0.refl _ | apply Drawn0.step)⟩
  case round =>
    clear H'
    obtain ⟨x3_1, x7_1, rfl, rfl, HA, HK1, ⟨m1, rfl⟩⟩ := hrel
    cases gk with
    | zero => exact absurd HA.out (by simp [shapesearchref03_Width.l0])
    | succ k1 =>
      have H := HA.out
      clear HA
      simp only [shapesearchref03_Width.l0] at H
      by_cases c2 : x7_1 < (l0.length : Int)
      · rw [if_pos c2] at H
        have c2b0 : decide (x7_1 < (l0.length : Int)) = true := decide_eq_true c2
        clear c2
        have HC3 := Aside0.mk H
        clear H
        go_upto_region 5 with (fail)
        repeat (go_quiet (fail); go_upto_region 5 with (fail))
        go_cut [21] (fun v21 wc => ∃ (kq : Nat) (x21_2 : Bool), v21 = .bool x21_2 ∧ Aside0 (shapesearchref03_Width.j1 kq l0 x3_1 x7_1 (l0.length : Int) x7_1 x21_2 = some r) ∧ Aside0 (kq ≤ k1) ∧ Drawn0 w wc)
        case first =>
          have H := HC3.out
          clear HC3
          by_cases c4 : 0 ≤ x7_1
          · rw [if_pos c4] at H
            have c4b0 : decide (0 ≤ x7_1) = true := decide_eq_true c4
            clear c4
            (first | rw [c4b0] | (simp only [i64_w, i32_w]; rw [c4b0]) | skip)
            by_cases c5 : x7_1 < (l0.length : Int)
            · rw [if_pos c5] at H
              have c5b0 : decide (x7_1 < (l0.length : Int)) = true := decide_eq_true c5
              clear c5
              by_cases c6 : (rd l0 x7_1) < 0
              · rw [if_pos c6] at H
                have c6b0 : decide ((rd l0 x7_1) < 0) = true := decide_eq_true c6
                clear c6
                have H' := Aside0.mk H
                clear H
                have p180 : 0 ≤ (x7_1 : Int) := of_decide_eq_true (by first | (with_reducible assumption) | assumption)
                have q180 : x7_1 < (l0.length : Int) := of_decide_eq_true (by first | (with_reducible assumption) | assumption)
                obtain ⟨ad180, e180, hx180_0⟩ := Kd.at_int HR0.out x7_1 p180 q180
                cases e180
                replace p180 := eq_true p180
                replace q180 := eq_true q180
                go_wp2
                repeat (go_quiet (fail); try go_wp2)
                go_meet
                case rel => exact ⟨_, (true), (by first | rfl | (simp; done) | (simp [*]; done)), H', ⟨by have := HK1.out; first | omega | exact Nat.le_refl _⟩, by repeat (first | exact Drawn0.refl _ | apply Drawn0.step)⟩
              · rw [if_neg c6] at H
                have c6b0 : decide ((rd l0 x7_1) < 0) = false := decide_eq_false c6
                clear c6
                have H' := Aside0.mk H
                clear H
                have p180 : 0 ≤ (x7_1 : Int) := of_decide_eq_true (by first | (with_reducible assumption) | assumption)
                have q180 : x7_1 < (l0.length : Int) := of_decide_eq_true (by first | (with_reducible assumption) | assumption)
                obtain ⟨ad180, e180, hx180_0⟩ := Kd.at_int HR0.out x7_1 p180 q180
                cases e180
                replace p180 := eq_true p180
                replace q180 := eq_true q180
                have p181 : 0 ≤ (x7_1 : Int) := of_decide_eq_true (by first | (with_reducible assumption) | assumption)
                have q181 : x7_1 < (l0.length : Int) := of_decide_eq_true (by first | (with_reducible assumption) | assumption)
                obtain ⟨ad181, e181, hx181_0⟩ := Kd.at_int HR0.out x7_1 p181 q181
                obtain rfl : ad180 = ad181 := (by injection e181)
                replace p181 := eq_true p181
                replace q181 := eq_true q181
                go_wp2
                repeat (go_quiet (fail); try go_wp2)
                go_meet
                case rel => exact ⟨_, (decide ((rd l0 x7_1) > 4294967295)), (by first | rfl | (simp; done) | (simp [*]; done)), H', ⟨by have := HK1.out; first | omega | exact Nat.le_refl _⟩, by repeat (first | exact Drawn0.refl _ | apply Drawn0.step)⟩
            · rw [if_neg c5] at H
              exact absurd H (by simp)
          · rw [if_neg c4] at H
            exact absurd H (by simp)
        case rest =>
          clear HC3
          try clear p1
          try clear q1
          try clear hx1
          try clear c2
          try clear c2b0
          try clear p2
          try clear c4
          try clear c4b0
          try clear c5
          try clear c5b0
          try clear c6
          try clear c6b0
          try clear hx180_0
          try clear hx181_0
          try clear p180
          try clear p181
          try clear q180
          try clear q181
          obtain ⟨kq, x21_2, rfl, HA, HJ2, ⟨mc2, rfl⟩⟩ := hcut
          cases kq with
          | zero => exact absurd HA.out (by simp [shapesearchref03_Width.j1])
          | succ kj2 =>
            have H := HA.out
            clear HA
            simp only [shapesearchref03_Width.j1] at H
            by_cases c7 : x21_2 = true
            · subst c7
              have H1 : (some (-1)) = some r := by rw [if_pos rfl] at H; exact H
              clear H
              have H := H1
              clear H1
              obtain rfl := Option.some.inj H
              go_wp2
              repeat (go_quiet (fail); try go_wp2)
              go_ret
              exact ⟨by first | rfl | (simp; done) | (simp [*]; done), by repeat (first | exact Drawn0.refl _ | apply Drawn0.step)⟩
            · replace c7 := Bool.eq_false_iff.mpr c7
              subst c7
              have H1 : (shapesearchref03_Width.l1 kj2 l0 x3_1 x7_1 (l0.length : Int) x7_1) = some r := by rw [if_neg (show ¬ (false = true) by decide)] at H; exact H
              clear H
              have H := H1
              clear H1
              have H' := Aside0.mk H
              clear H
              go_wp2
              repeat (go_quiet (fail); try go_wp2)
              go_loopg [3] kj2 (fun kq v3 w' => ∃ (x3_3 : Int), v3 = .int .i64 x3_3 ∧ Aside0 (shapesearchref03_Width.l1 kq l0 x3_3 x7_1 (l0.length : Int) x7_1 = some r) ∧ Aside0 (kq ≤ kj2) ∧ Drawn0 w w')
              case atStart => exact ⟨(x3_1), (by first | rfl | (simp; done) | (simp [*]; done)), H', ⟨Nat.le_refl _⟩, by repeat (first | exact Drawn0.refl _ | apply Drawn0.step)⟩
              case round =>
                clear H'
                try clear p1
                try clear q1
                try clear hx1
                try clear c2
                try clear c2b0
                try clear p2
                try clear c4
                try clear c4b0
                try clear c5
                try clear c5b0
                try clear c6
                try clear c6b0
                try clear c7
                try clear hx180_0
                try clear hx181_0
                try clear p1
                try clear p180
                try clear p181
                try clear p2
                try clear q1
                try clear q180
                try clear q181
                obtain ⟨x3_3, rfl, HA, HK3, ⟨m3, rfl⟩⟩ := hrel
                cases gk with
                | zero => exact absurd HA.out (by simp [shapesearchref03_Width.l1])
                | succ k3 =>
                  have H := HA.out
                  clear HA
                  simp only [shapesearchref03_Width.l1] at H
                  by_cases c8 : 0 ≤ x7_1
                  · rw [if_pos c8] at H
                    have c8b0 : decide (0 ≤ x7_1) = true := decide_eq_true c8
                    clear c8
                    by_cases c9 : x7_1 < (l0.length : Int)
                    · rw [if_pos c9] at H
                      have c9b0 : decide (x7_1 < (l0.length : Int)) = true := decide_eq_true c9
                      clear c9
                      by_cases c10 : 0 ≤ x3_3
                      · rw [if_pos c10] at H
                        have c10b0 := eq_true c10
                        have c10b1 : decide (0 ≤ x3_3) = true := decide_eq_true c10
                        clear c10
                        obtain ⟨ji11, hji11⟩ : ∃ j_ : Int, (shl .i64 1 x3_3) = j_ := ⟨_, rfl⟩
                        replace H : (if (rd l0 x7_1) ≥ (ji11) then (shapesearchref03_Width.l1 k3 l0 (wrap64 (x3_3 + 1)) x7_1 (l0.length : Int) x7_1) else (shapesearchref03_Width.l0 k3 l0 x3_3 (l0.length : Int) (wrap64 (x7_1 + 1)))) = some r := by first | (rw [hji11] at H; exact H) | (simp only [hji11] at H ⊢; exact H)
                        have hji11_ : (IntKind.i64.wrap (1 * 2 ^ min x3_3.toNat 64)) = ji11 := hji11
                        have hji11z : x3_3 ≤ 64 → (IntKind.i64.wrap (1 * 2 ^ x3_3.toNat)) = ji11 := shl_small hji11
                        have hji11u : (IntKind.i64.wrap (2 ^ min x3_3.toNat 64)) = ji11 := by have h_ := hji11_; rw [Int.one_mul] at h_; exact h_
                        have hji11v : x3_3 ≤ 64 → (IntKind.i64.wrap (2 ^ x3_3.toNat)) = ji11 := fun hle_ => by have h_ := hji11z hle_; rw [Int.one_mul] at h_; exact h_
                        have hji11y : (wrap64 (1 * 2 ^ min x3_3.toNat 64)) = ji11 := (i64_w _).symm.trans hji11_
                        have hji11x : x3_3 ≤ 64 → (wrap64 (1 * 2 ^ x3_3.toNat)) = ji11 := fun h_ => (i64_w _).symm.trans (hji11z h_)
                        by_cases c12 : (rd l0 x7_1) ≥ (ji11)
                        · rw [if_pos c12] at H
                          have c12b0 : decide ((ji11) ≤ (rd l0 x7_1)) = true := decide_eq_true c12
                          clear c12
                          have H' := Aside0.mk H
                          clear H
                          have p182 : 0 ≤ (x7_1 : Int) := of_decide_eq_true (by first | (with_reducible assumption) | assumption)
                          have q182 : x7_1 < (l0.length : Int) := of_decide_eq_true (by first | (with_reducible assumption) | assumption)
                          obtain ⟨ad182, e182, hx182_0⟩ := Kd.at_int HR0.out x7_1 p182 q182
                          cases e182
                          replace p182 := eq_true p182
                          replace q182 := eq_true q182
                          go_wp2
                          repeat (go_quiet (fail); try go_wp2)
                          go_roundg k3
                          case measure => have := HK1.out; have := HJ2.out; have := HK3.out; omega
                          case rel => exact ⟨(wrap64 (x3_3 + 1)), (by first | rfl | (simp; done) | (simp [*]; done)), H', ⟨by have := HK1.out; have := HJ2.out; have := HK3.out; omega⟩, by repeat (first | exact Drawn0.refl _ | apply Drawn0.step)⟩
                        · rw [if_neg c12] at H
                          have c12b0 : decide ((ji11) ≤ (rd l0 x7_1)) = false := decide_eq_false c12
                          clear c12
                          have H' := Aside0.mk H
                          clear H
                          have p182 : 0 ≤ (x7_1 : Int) := of_decide_eq_true (by first | (with_reducible assumption) | assumption)
                          have q182 : x7_1 < (l0.length : Int) := of_decide_eq_true (by first | (with_reducible assumption) | assumption)
                          obtain ⟨ad182, e182, hx182_0⟩ := Kd.at_int HR0.out x7_1 p182 q182
                          cases e182
                          replace p182 := eq_true p182
                          replace q182 := eq_true q182
                          go_wp2
                          repeat (go_quiet (fail); try go_wp2)
                          go_roundg k3
                          case measure => have := HK1.out; have := HJ2.out; have := HK3.out; omega
                          case rel => exact ⟨(x3_3), (wrap64 (x7_1 + 1)), (by first | rfl | (simp; done) | (simp [*]; done)), (by first | rfl | (simp; done) | (simp [*]; done)), H', ⟨by have := HK1.out; have := HJ2.out; have := HK3.out; omega⟩, by repeat (first | exact Drawn0.refl _ | apply Drawn0.step)⟩
                      · rw [if_neg c10] at H
                        exact absurd H (by simp)
                    · rw [if_neg c9] at H
                      exact absurd H (by simp)
                  · rw [if_neg c8] at H
                    exact absurd H (by simp)
      · rw [if_neg c2] at H
        have c2b0 : decide (x7_1 < (l0.length : Int)) = false := decide_eq_false c2
        clear c2
        obtain rfl := Option.some.inj H
        go_wp2
        repeat (go_quiet (fail); try go_wp2)
        go_ret
        exact ⟨by first | rfl | (simp; done) | (simp [*]; done), by repeat (first | exact Drawn0.refl _ | apply Drawn0.step)⟩

/-! ### codec_size: function 33 -/
def codec_size.f (a0 : Int) (a1 : Int) : Option (Int) := some (wrap64 (Int.tdiv (wrap64 ((wrap64 (a0 * a1)) + 7)) 8))
set_option maxHeartbeats 8000000 in
set_option maxRecDepth 100000 in
theorem codec_size.calls (a0 : Int) (a1 : Int) (r : Int) (w : World) (h : codec_size.f a0 a1 = some r) :
    Calls Try.prog 33 #[.int .i64 a0, .int .i64 a1] w fun e w' => e = .returned (.int .i64 r) ∧ Drawn0 w w' := by
  have H : (some (wrap64 (Int.tdiv (wrap64 ((wrap64 (a0 * a1)) + 7)) 8))) = some r := h
  clear h
  obtain rfl := Option.some.inj H
  go_enter Try.func33, Try.ntmps33
  go_wp2
  go_ret
  exact ⟨by first | rfl | (simp; done) | (simp [*]; done), by repeat (first | exact Drawn0.refl _ | apply Drawn0.step)⟩

end Go.Proofs.Ytemeojkmchgkjaa.PCodecAnswers
