/- This file proves, function by function, what the Go functions that one law uses compute; most of it was printed by a program (wip/tools of this session, over the kit's print). -/
import Derived.Test.YtemeojkmchgkjaaPCodecAnswersx0
import Derived.Test.YtemeojkmchgkjaaPCodecAnswersx4
namespace Go.Proofs.Ytemeojkmchgkjaa.PCodecAnswers
open Go.RowKit Go.Proofs.YtemeojkmchgkjaaW.PrintWords Go.Proofs.YtemeojkmchgkjaaW.PrintLast Go.Proofs.YtemeojkmchgkjaaW.PrintMore
attribute [local go_sem] max2_int min2_int max_two min_two max_three min_three max_four min_four   -- for this text's walks alone
set_option linter.unusedVariables false
set_option linter.unusedSimpArgs false

/-! ### codec_Unpack: function 25 -/
def codec_Unpack.f (l0 : List Int) (a1 : Int) (a2 : Int) : Option (List Int × Int) := if a1 < 0 ∨ 32 < a1 then some ([], 1) else if a2 < 0 ∨ 2000 < a2 then some ([], 4) else (codec_size.f a1 a2).bind fun m => if (l0.length : Int) = m then (if m = (((a1.toNat * a2.toNat + 7) / 8 : Nat) : Int) then (if X.padb (X.bitz l0) (a1.toNat * a2.toNat) (8 * l0.length) = true then some (X.unp (X.bitz l0) a1.toNat a2.toNat, 0) else some ([], 3)) else none) else some ([], if (l0.length : Int) < m then 2 else 3)
theorem codec_Unpack.calls (A0 : Option Addr) (c0 : Nat) (l0 : List Int) (a1 : Int) (a2 : Int) (r1 : List Int) (r2 : Int) (w : World) (hr0 : Kd.C (Kd.int .u8) w A0 l0.length l0) (hc0 : l0.length ≤ c0) (h : codec_Unpack.f l0 a1 a2 = some (r1, r2)) :
    Calls Try.prog 25 #[.slice A0 l0.length c0, .int .i64 a1, .int .i64 a2] w fun e w' => ∃ v0_ : Value, e = .returned (.tuple #[v0_, .int .i64 r2]) ∧ Kd.R (Kd.int .i64) 3 w' w.heap.size (fun _ => True) v0_ r1 ∧ Below w.heap.size w w' := by
  unfold codec_Unpack.f at h
  by_cases h1 : a1 < 0 ∨ 32 < a1
  · rw [if_pos h1] at h
    cases h
    exact (X.unpack_range A0 c0 l0 a1 a2 w h1).mono fun e w' ⟨e1, e2⟩ => ⟨_, e1, Kd.R_nil _ _ _ _ _, e2⟩
  rw [if_neg h1] at h
  by_cases h2 : a2 < 0 ∨ 2000 < a2
  · rw [if_pos h2] at h
    cases h
    exact (X.unpack_limit A0 c0 l0 a1 a2 w (by omega) (by omega) h2).mono fun e w' ⟨e1, e2⟩ => ⟨_, e1, Kd.R_nil _ _ _ _ _, e2⟩
  rw [if_neg h2] at h
  obtain ⟨m, hm, h⟩ := Option.bind_eq_some_iff.mp h
  have hs := fun w1 : World => codec_size.calls a1 a2 m w1 hm
  by_cases h3 : (l0.length : Int) = m
  · rw [if_pos h3] at h
    by_cases h4 : m = (((a1.toNat * a2.toNat + 7) / 8 : Nat) : Int)
    · rw [if_pos h4] at h
      obtain ⟨wd, rfl⟩ := Int.eq_ofNat_of_zero_le (show 0 ≤ a1 by omega)
      obtain ⟨n, rfl⟩ := Int.eq_ofNat_of_zero_le (show 0 ≤ a2 by omega)
      simp only [Int.toNat_natCast] at h h4
      have hwn : wd * n ≤ 64000 := Nat.mul_le_mul (show wd ≤ 32 by omega) (show n ≤ 2000 by omega)
      have hl : l0.length = (wd * n + 7) / 8 := by omega
      rw [← h3] at hs
      have key := X.unpack_ok (X.bitz l0) A0 c0 l0 wd n (wd * n) (8 * l0.length) w hr0 (by omega) (by omega) ⟨rfl⟩ ⟨rfl⟩ (by omega) (by omega) ⟨hs⟩ ⟨fun i z W hi hz hG hR => by
        subst hz
        exact X.bit_calls w.heap.size A0 c0 l0 i W hG hR hi (by omega)⟩
      refine key.mono fun e w' hh => ?_
      rcases hh with ⟨b1, v0, e1, e2, e3⟩ | ⟨b1, e1, e2⟩
      · rw [if_pos b1] at h
        cases h
        exact ⟨v0, e1, e2, e3⟩
      · rw [if_neg (by rw [b1]; simp)] at h
        cases h
        exact ⟨_, e1, Kd.R_nil _ _ _ _ _, e2⟩
    · rw [if_neg h4] at h
      cases h
  · rw [if_neg h3] at h
    cases h
    exact (X.unpack_size A0 c0 l0 a1 a2 m w (by omega) (by omega) (by omega) (by omega) h3 ⟨hs⟩).mono fun e w' ⟨e1, e2⟩ => ⟨_, e1, Kd.R_nil _ _ _ _ _, e2⟩

/-! ### shapesearchref03_Unpack: function 26 -/
mutual
def shapesearchref03_Unpack.j0 : Nat → List Int → Int → Int → Bool → Option (List Int × Int)
  | 0, _, _, _, _ => none
  | k + 1, x0, x1, x2, x15 => if x15 = true then (some (([] : List Int), 1)) else (if x2 < 0 then (shapesearchref03_Unpack.j1 k x0 x1 x2 true) else (shapesearchref03_Unpack.j1 k x0 x1 x2 (decide (x2 > 2000))))
def shapesearchref03_Unpack.j1 : Nat → List Int → Int → Int → Bool → Option (List Int × Int)
  | 0, _, _, _, _ => none
  | k + 1, x0, x1, x2, x21 => if x21 = true then (some (([] : List Int), 4)) else (if (x0.length : Int) < (wrap64 (Int.tdiv (wrap64 ((wrap64 (x2 * x1)) + 7)) 8)) then (some (([] : List Int), 2)) else (if (x0.length : Int) > (wrap64 (Int.tdiv (wrap64 ((wrap64 (x2 * x1)) + 7)) 8)) then (some (([] : List Int), 3)) else (if 0 ≤ x2 then (if (x2 : Int).toNat ≤ 35184372088832 then (shapesearchref03_Unpack.l0 k x0 x1 x2 (List.replicate (x2 : Int).toNat 0) 0) else (none)) else (none))))
def shapesearchref03_Unpack.l0 : Nat → List Int → Int → Int → List Int → Int → Option (List Int × Int)
  | 0, _, _, _, _, _ => none
  | k + 1, x0, x1, x2, x8, x9 => if x9 < (wrap64 ((x0.length : Int) * 8)) then (if 0 ≤ (wrap64 (Int.tdiv x9 8)) then (if (wrap64 (Int.tdiv x9 8)) < (x0.length : Int) then (if 0 ≤ (Int.tmod x9 8) then (if (Go.bits .and .u8 (shr .u8 (rd x0 (wrap64 (Int.tdiv x9 8))) (Int.tmod x9 8)) 1) = 0 then (shapesearchref03_Unpack.l0 k x0 x1 x2 x8 (wrap64 (x9 + 1))) else (if x9 ≥ (wrap64 (x2 * x1)) then (some (([] : List Int), 3)) else (if x1 = 0 then (none) else (if 0 ≤ (wrap64 (Int.tdiv x9 x1)) then (if (wrap64 (Int.tdiv x9 x1)) < (x8.length : Int) then (if 0 ≤ (Int.tmod x9 x1) then (shapesearchref03_Unpack.l0 k x0 x1 x2 (x8.set ((wrap64 (Int.tdiv x9 x1)) : Int).toNat (Go.bits .or .i64 (rd x8 (wrap64 (Int.tdiv x9 x1))) (shl .i64 1 (Int.tmod x9 x1)))) (wrap64 (x9 + 1))) else (none)) else (none)) else (none))))) else (none)) else (none)) else (none)) else (some (x8, 0))
end
def shapesearchref03_Unpack.f (k : Nat) (l0 : List Int) (a1 : Int) (a2 : Int) : Option (List Int × Int) := if a1 < 0 then (shapesearchref03_Unpack.j0 k l0 a1 a2 true) else (shapesearchref03_Unpack.j0 k l0 a1 a2 (decide (a1 > 32)))
theorem shapesearchref03_Unpack.mono_l : ∀ k, (∀ y0 y1 y2 y3, LeO (shapesearchref03_Unpack.j0 k y0 y1 y2 y3) (shapesearchref03_Unpack.j0 (k + 1) y0 y1 y2 y3)) ∧ (∀ y0 y1 y2 y3, LeO (shapesearchref03_Unpack.j1 k y0 y1 y2 y3) (shapesearchref03_Unpack.j1 (k + 1) y0 y1 y2 y3)) ∧ (∀ y0 y1 y2 y3 y4, LeO (shapesearchref03_Unpack.l0 k y0 y1 y2 y3 y4) (shapesearchref03_Unpack.l0 (k + 1) y0 y1 y2 y3 y4))
  | 0 => ⟨fun _ _ _ _ r h => by simp [shapesearchref03_Unpack.j0] at h, fun _ _ _ _ r h => by simp [shapesearchref03_Unpack.j1] at h, fun _ _ _ _ _ r h => by simp [shapesearchref03_Unpack.l0] at h⟩
  | k + 1 => by
    obtain ⟨ih0, ih1, ih2⟩ := shapesearchref03_Unpack.mono_l k
    refine ⟨?_, ?_, ?_⟩
    · intro y0 y1 y2 y3
      unfold shapesearchref03_Unpack.j0
      repeat' first
      | (with_reducible exact ih0 _ _ _ _)
      | (with_reducible exact ih1 _ _ _ _)
      | (with_reducible exact ih2 _ _ _ _ _)
      | (with_reducible exact LeO.refl _)
      | (with_reducible exact LeO.none _)
      | (with_reducible refine LeO.ite ?_ ?_)
      | (with_reducible refine LeO.bind ?_ (fun _ => ?_))
      | exact ih0 _ _ _ _
      | exact ih1 _ _ _ _
      | exact ih2 _ _ _ _ _
      | exact LeO.none _
      | refine LeO.ite ?_ ?_
      | refine LeO.bind ?_ (fun _ => ?_)
    · intro y0 y1 y2 y3
      unfold shapesearchref03_Unpack.j1
      repeat' first
      | (with_reducible exact ih0 _ _ _ _)
      | (with_reducible exact ih1 _ _ _ _)
      | (with_reducible exact ih2 _ _ _ _ _)
      | (with_reducible exact LeO.refl _)
      | (with_reducible exact LeO.none _)
      | (with_reducible refine LeO.ite ?_ ?_)
      | (with_reducible refine LeO.bind ?_ (fun _ => ?_))
      | exact ih0 _ _ _ _
      | exact ih1 _ _ _ _
      | exact ih2 _ _ _ _ _
      | exact LeO.none _
      | refine LeO.ite ?_ ?_
      | refine LeO.bind ?_ (fun _ => ?_)
    · intro y0 y1 y2 y3 y4
      unfold shapesearchref03_Unpack.l0
      repeat' first
      | (with_reducible exact ih0 _ _ _ _)
      | (with_reducible exact ih1 _ _ _ _)
      | (with_reducible exact ih2 _ _ _ _ _)
      | (with_reducible exact LeO.refl _)
      | (with_reducible exact LeO.none _)
      | (with_reducible refine LeO.ite ?_ ?_)
      | (with_reducible refine LeO.bind ?_ (fun _ => ?_))
      | exact ih0 _ _ _ _
      | exact ih1 _ _ _ _
      | exact ih2 _ _ _ _ _
      | exact LeO.none _
      | refine LeO.ite ?_ ?_
      | refine LeO.bind ?_ (fun _ => ?_)
theorem shapesearchref03_Unpack.mono : ∀ a0 a1 a2 k, LeO (shapesearchref03_Unpack.f k a0 a1 a2) (shapesearchref03_Unpack.f (k + 1) a0 a1 a2) := by
  intro a0 a1 a2 k
  obtain ⟨ih0, ih1, ih2⟩ := shapesearchref03_Unpack.mono_l k
  unfold shapesearchref03_Unpack.f
  repeat' first
      | (with_reducible exact ih0 _ _ _ _)
      | (with_reducible exact ih1 _ _ _ _)
      | (with_reducible exact ih2 _ _ _ _ _)
      | (with_reducible exact LeO.refl _)
      | (with_reducible exact LeO.none _)
      | (with_reducible refine LeO.ite ?_ ?_)
      | (with_reducible refine LeO.bind ?_ (fun _ => ?_))
      | exact ih0 _ _ _ _
      | exact ih1 _ _ _ _
      | exact ih2 _ _ _ _ _
      | exact LeO.none _
      | refine LeO.ite ?_ ?_
      | refine LeO.bind ?_ (fun _ => ?_)
def shapesearchref03_Unpack.T16 : Bool × List (List Nat × List Nat) := (true, [([], []), ([], []), ([], []), ([1, 2], [1, 2]), ([0, 3], [0, 3]), ([4], [4]), ([], []), ([], []), ([6, 7], [6, 7]), ([8], [8]), ([5, 9], [5, 9]), ([0, 3, 0, 1, 2, 3, 4, 5, 6, 7, 8, 9, 10], [0, 3]), ([11, 10, 0, 1, 2, 3, 4, 5, 6, 7, 8, 9, 10], [10, 11])])
def shapesearchref03_Unpack.B16 : List Nat := [0, 0, 0, 6, 15, 31, 0, 0, 192, 448, 1023, 2047, 4095]
theorem shapesearchref03_Unpack.tab16 : rtab .any (opsOf Try.f26 16) = shapesearchref03_Unpack.T16 := by kernel_rfl
theorem shapesearchref03_Unpack.bits16 : waitsOk shapesearchref03_Unpack.T16.2 shapesearchref03_Unpack.B16 = true := by kernel_rfl
set_option maxHeartbeats 8000000 in
set_option maxRecDepth 100000 in
theorem shapesearchref03_Unpack.calls (k : Nat) (A0 : Option Addr) (c0 : Nat) (l0 : List Int) (a1 : Int) (a2 : Int) (r1 : List Int) (r2 : Int) (w : World) (hr0 : Kd.C (Kd.int .u8) w A0 l0.length l0) (hc0 : l0.length ≤ c0) (h : shapesearchref03_Unpack.f k l0 a1 a2 = some (r1, r2)) :
    Calls Try.prog 26 #[.slice A0 l0.length c0, .int .i64 a1, .int .i64 a2] w fun e w' => ∃ v0_ : Value, e = .returned (.tuple #[v0_, .int .i64 r2]) ∧ Kd.R (Kd.int .i64) 3 w' w.heap.size (fun _ => True) v0_ r1 ∧ Below w.heap.size w w' := by
  have HR0 := Aside0.mk hr0
  have HC0 := Aside0.mk hc0
  clear hr0 hc0
  have HB := Aside0.mk (Below.refl w.heap.size w)
  have H : (if a1 < 0 then (shapesearchref03_Unpack.j0 k l0 a1 a2 true) else (shapesearchref03_Unpack.j0 k l0 a1 a2 (decide (a1 > 32)))) = some (r1, r2) := h
  clear h
  have HC4 := Aside0.mk H
  clear H
  go_enter Try.func26, Try.ntmps26
  go_upto_region 1 with (fail)
  go_cut [15] (fun v15 wc => ∃ (kq : Nat) (x15_3 : Bool), v15 = .bool x15_3 ∧ Aside0 (shapesearchref03_Unpack.j0 kq l0 a1 a2 x15_3 = some (r1, r2)) ∧ Aside0 (kq ≤ k) ∧ Aside0 (Below w.heap.size w wc))
  case first =>
    have H := HC4.out
    clear HC4
    by_cases c5 : a1 < 0
    · rw [if_pos c5] at H
      have c5b0 : decide (a1 < 0) = true := decide_eq_true c5
      clear c5
      (first | rw [c5b0] | (simp only [i64_w, i32_w]; rw [c5b0]) | skip)
      have H' := Aside0.mk H
      clear H
      go_wp2
      go_meet
      case rel => exact ⟨_, (true), (by first | rfl | (simp; done) | (simp [*]; done)), H', ⟨by first | omega | exact Nat.le_refl _⟩, ⟨by repeat (first | (with_reducible first | exact HB.out | apply below_alloc | apply pw_below_drewN | apply below_drew1) | exact HB.out)⟩⟩
    · rw [if_neg c5] at H
      have c5b0 : decide (a1 < 0) = false := decide_eq_false c5
      clear c5
      (first | rw [c5b0] | (simp only [i64_w, i32_w]; rw [c5b0]) | skip)
      have H' := Aside0.mk H
      clear H
      go_wp2
      go_meet
      case rel => exact ⟨_, (decide (a1 > 32)), (by first | rfl | (simp; done) | (simp [*]; done)), H', ⟨by first | omega | exact Nat.le_refl _⟩, ⟨by repeat (first | (with_reducible first | exact HB.out | apply below_alloc | apply pw_below_drewN | apply below_drew1) | exact HB.out)⟩⟩
  case rest =>
    clear HC4
    try clear c2
    try clear p2
    try clear c5
    try clear c5b0
    obtain ⟨kq, x15_3, rfl, HA, HJ3, HB⟩ := hcut
    cases kq with
    | zero => exact absurd HA.out (by simp [shapesearchref03_Unpack.j0])
    | succ kj3 =>
      have H := HA.out
      clear HA
      simp only [shapesearchref03_Unpack.j0] at H
      by_cases c6 : x15_3 = true
      · subst c6
        have H1 : (some (([] : List Int), 1)) = some (r1, r2) := by rw [if_pos rfl] at H; exact H
        clear H
        have H := H1
        clear H1
        simp only [Option.some.injEq, Prod.mk.injEq] at H
        obtain ⟨rfl, rfl⟩ := H
        go_wp2
        go_ret2
        exact ⟨_, by first | rfl | (simp [errW_none, errW_some] <;> rfl) | (simp [*, errW_none, errW_some] <;> rfl), by first | exact Kd.R_nil _ _ _ _ _ | exact Kd.N_nil _ _ _ _ _ | exact Kd.V_nil _ _ _ _ _ | exact Kd.Q_nil _ _ _ _ _ | exact Kd.S_nil _ _ _ _ _, by repeat (first | (with_reducible first | exact HB.out | apply below_alloc | apply pw_below_drewN | apply below_drew1) | exact HB.out)⟩
      · replace c6 := Bool.eq_false_iff.mpr c6
        subst c6
        have H1 : (if a2 < 0 then (shapesearchref03_Unpack.j1 kj3 l0 a1 a2 true) else (shapesearchref03_Unpack.j1 kj3 l0 a1 a2 (decide (a2 > 2000)))) = some (r1, r2) := by rw [if_neg (show ¬ (false = true) by decide)] at H; exact H
        clear H
        have H := H1
        clear H1
        have HC7 := Aside0.mk H
        clear H
        go_upto_region 3 with (fail)
        go_cut [21] (fun v21 wc => ∃ (kq : Nat) (x21_6 : Bool), v21 = .bool x21_6 ∧ Aside0 (shapesearchref03_Unpack.j1 kq l0 a1 a2 x21_6 = some (r1, r2)) ∧ Aside0 (kq ≤ kj3) ∧ Aside0 (Below w.heap.size w wc))
        case first =>
          have H := HC7.out
          clear HC7
          by_cases c8 : a2 < 0
          · rw [if_pos c8] at H
            have c8b0 : decide (a2 < 0) = true := decide_eq_true c8
            clear c8
            (first | rw [c8b0] | (simp only [i64_w, i32_w]; rw [c8b0]) | skip)
            have H' := Aside0.mk H
            clear H
            go_wp2
            go_meet
            case rel => exact ⟨_, (true), (by first | rfl | (simp; done) | (simp [*]; done)), H', ⟨by have := HJ3.out; first | omega | exact Nat.le_refl _⟩, ⟨by repeat (first | (with_reducible first | exact HB.out | apply below_alloc | apply pw_below_drewN | apply below_drew1) | exact HB.out)⟩⟩
          · rw [if_neg c8] at H
            have c8b0 : decide (a2 < 0) = false := decide_eq_false c8
            clear c8
            (first | rw [c8b0] | (simp only [i64_w, i32_w]; rw [c8b0]) | skip)
            have H' := Aside0.mk H
            clear H
            go_wp2
            go_meet
            case rel => exact ⟨_, (decide (a2 > 2000)), (by first | rfl | (simp; done) | (simp [*]; done)), H', ⟨by have := HJ3.out; first | omega | exact Nat.le_refl _⟩, ⟨by repeat (first | (with_reducible first | exact HB.out | apply below_alloc | apply pw_below_drewN | apply below_drew1) | exact HB.out)⟩⟩
        case rest =>
          clear HC7
          try clear c2
          try clear p2
          try clear c5
          try clear c5b0
          try clear c6
          try clear c8
          try clear c8b0
          try clear p2
          obtain ⟨kq, x21_6, rfl, HA, HJ6, HB⟩ := hcut
          cases kq with
          | zero => exact absurd HA.out (by simp [shapesearchref03_Unpack.j1])
          | succ kj6 =>
            have H := HA.out
            clear HA
            simp only [shapesearchref03_Unpack.j1] at H
            by_cases c9 : x21_6 = true
            · subst c9
              have H1 : (some (([] : List Int), 4)) = some (r1, r2) := by rw [if_pos rfl] at H; exact H
              clear H
              have H := H1
              clear H1
              simp only [Option.some.injEq, Prod.mk.injEq] at H
              obtain ⟨rfl, rfl⟩ := H
              go_wp2
              go_ret2
              exact ⟨_, by first | rfl | (simp [errW_none, errW_some] <;> rfl) | (simp [*, errW_none, errW_some] <;> rfl), by first | exact Kd.R_nil _ _ _ _ _ | exact Kd.N_nil _ _ _ _ _ | exact Kd.V_nil _ _ _ _ _ | exact Kd.Q_nil _ _ _ _ _ | exact Kd.S_nil _ _ _ _ _, by repeat (first | (with_reducible first | exact HB.out | apply below_alloc | apply pw_below_drewN | apply below_drew1) | exact HB.out)⟩
            · replace c9 := Bool.eq_false_iff.mpr c9
              subst c9
              have H1 : (if (l0.length : Int) < (wrap64 (Int.tdiv (wrap64 ((wrap64 (a2 * a1)) + 7)) 8)) then (some (([] : List Int), 2)) else (if (l0.length : Int) > (wrap64 (Int.tdiv (wrap64 ((wrap64 (a2 * a1)) + 7)) 8)) then (some (([] : List Int), 3)) else (if 0 ≤ a2 then (if (a2 : Int).toNat ≤ 35184372088832 then (shapesearchref03_Unpack.l0 kj6 l0 a1 a2 (List.replicate (a2 : Int).toNat 0) 0) else (none)) else (none)))) = some (r1, r2) := by rw [if_neg (show ¬ (false = true) by decide)] at H; exact H
              clear H
              have H := H1
              clear H1
              by_cases c10 : (l0.length : Int) < (wrap64 (Int.tdiv (wrap64 ((wrap64 (a2 * a1)) + 7)) 8))
              · rw [if_pos c10] at H
                have c10b0 : decide ((l0.length : Int) < (wrap64 (Int.tdiv (wrap64 ((wrap64 (a2 * a1)) + 7)) 8))) = true := decide_eq_true c10
                (try (have c10b0d := c10b0; simp only [Int.tdiv_eq_ediv_of_nonneg (Int.natCast_nonneg _)] at c10b0d))
                clear c10
                simp only [Option.some.injEq, Prod.mk.injEq] at H
                obtain ⟨rfl, rfl⟩ := H
                go_wp2
                go_ret2
                exact ⟨_, by first | rfl | (simp [errW_none, errW_some] <;> rfl) | (simp [*, errW_none, errW_some] <;> rfl), by first | exact Kd.R_nil _ _ _ _ _ | exact Kd.N_nil _ _ _ _ _ | exact Kd.V_nil _ _ _ _ _ | exact Kd.Q_nil _ _ _ _ _ | exact Kd.S_nil _ _ _ _ _, by repeat (first | (with_reducible first | exact HB.out | apply below_alloc | apply pw_below_drewN | apply below_drew1) | exact HB.out)⟩
              · rw [if_neg c10] at H
                have c10b0 : decide ((l0.length : Int) < (wrap64 (Int.tdiv (wrap64 ((wrap64 (a2 * a1)) + 7)) 8))) = false := decide_eq_false c10
                (try (have c10b0d := c10b0; simp only [Int.tdiv_eq_ediv_of_nonneg (Int.natCast_nonneg _)] at c10b0d))
                clear c10
                by_cases c11 : (l0.length : Int) > (wrap64 (Int.tdiv (wrap64 ((wrap64 (a2 * a1)) + 7)) 8))
                · rw [if_pos c11] at H
                  have c11b0 : decide ((wrap64 (Int.tdiv (wrap64 ((wrap64 (a2 * a1)) + 7)) 8)) < (l0.length : Int)) = true := decide_eq_true c11
                  (try (have c11b0d := c11b0; simp only [Int.tdiv_eq_ediv_of_nonneg (Int.natCast_nonneg _)] at c11b0d))
                  clear c11
                  simp only [Option.some.injEq, Prod.mk.injEq] at H
                  obtain ⟨rfl, rfl⟩ := H
                  go_wp2
                  go_ret2
                  exact ⟨_, by first | rfl | (simp [errW_none, errW_some] <;> rfl) | (simp [*, errW_none, errW_some] <;> rfl), by first | exact Kd.R_nil _ _ _ _ _ | exact Kd.N_nil _ _ _ _ _ | exact Kd.V_nil _ _ _ _ _ | exact Kd.Q_nil _ _ _ _ _ | exact Kd.S_nil _ _ _ _ _, by repeat (first | (with_reducible first | exact HB.out | apply below_alloc | apply pw_below_drewN | apply below_drew1) | exact HB.out)⟩
                · rw [if_neg c11] at H
                  have c11b0 : decide ((wrap64 (Int.tdiv (wrap64 ((wrap64 (a2 * a1)) + 7)) 8)) < (l0.length : Int)) = false := decide_eq_false c11
                  (try (have c11b0d := c11b0; simp only [Int.tdiv_eq_ediv_of_nonneg (Int.natCast_nonneg _)] at c11b0d))
                  clear c11
                  by_cases c12 : 0 ≤ a2
                  · rw [if_pos c12] at H
                    have c12b0 := eq_true c12
                    have c12b1 : decide (0 ≤ a2) = true := decide_eq_true c12
                    clear c12
                    by_cases c13 : (a2 : Int).toNat ≤ 35184372088832
                    · rw [if_pos c13] at H
                      have c13b0 := eq_true c13
                      have c13b1 : decide ((a2 : Int).toNat ≤ 35184372088832) = true := decide_eq_true c13
                      clear c13
                      obtain ⟨y198, hy198⟩ : ∃ y_ : List Int, y_ = (List.replicate (a2 : Int).toNat 0) := ⟨_, rfl⟩
                      replace H : (shapesearchref03_Unpack.l0 kj6 l0 a1 a2 y198 0) = some (r1, r2) := by first | (rw [hy198]; with_reducible exact H) | (have H2_ := (Option.bind_some _ _).symm.trans H; rw [hy198]; with_reducible exact H2_) | (have H2_ := (Option.bind_some _ _).symm.trans H; with_reducible exact H2_) | with_reducible exact H | (rw [hy198]; exact H) | exact H
                      have Ny198 := Aside0.mk hy198
                      clear hy198
                      have H' := Aside0.mk H
                      clear H
                      go_wp2_with (first | ((with_reducible refine gate_dst (N := 39) rfl ?_); refine Kd.R_make (Kd.int .i64) _ 3 rfl (N := 39) rfl 36 _ _ rfl a2 rfl rfl Try.underlying36 (.int .i64 0) 8 info3 rfl (by decide) (by omega) 0 (ok := fun _ => True) (okp := fun _ => True) rfl (fun _ hk => hk) trivial (of_decide_eq_true (by first | (with_reducible assumption) | assumption)) (Nat.le_trans (Nat.mul_le_mul_right _ (of_decide_eq_true (by first | (with_reducible assumption) | assumption) : a2.toNat ≤ 35184372088832)) (by omega)) (Below.refl _ _) (Nat.le_refl _) ?_; intro v199 w14 ho15 hb hg_ hnew_; clear hg_ hnew_; (first | rw [← Ny198.out] at ho15 | (simp only [Int.reduceToNat] at ho15; rw [← Ny198.out] at ho15)); have n0_ := Aside0.mk (Kd.R_lower ho15 (below_size (by repeat (first | (with_reducible first | exact HB.out | apply below_alloc | apply pw_below_drewN | apply below_drew1) | exact HB.out)))); have n1_ := Aside0.mk (below_step (by repeat (first | (with_reducible first | exact HB.out | apply below_alloc | apply pw_below_drewN | apply below_drew1) | exact HB.out)) hb); clear HB; have HO200 := n0_; have HB := n1_; clear n0_ n1_; clear hb ho15))
                      go_loopg [9] kj6 (fun kq v9 w' => ∃ (x8_3 : List Int) (x9_3 : Int), v9 = .int .i64 x9_3 ∧ Aside0 (shapesearchref03_Unpack.l0 kq l0 a1 a2 x8_3 x9_3 = some (r1, r2)) ∧ Aside0 (kq ≤ kj6) ∧ Aside0 (Kd.R (Kd.int .i64) 3 w' w.heap.size (fun _ => True) v199 x8_3) ∧ Aside0 (Below w.heap.size w w'))
                      case atStart => exact ⟨(y198), (0), (by first | rfl | (simp; done) | (simp [*]; done)), H', ⟨Nat.le_refl _⟩, ⟨by (with_reducible repeat (first | apply Kd.R_alloc | apply Kd.R_drewN | apply Kd.R_drew)); exact HO200.out⟩, ⟨by repeat (first | (with_reducible first | exact HB.out | apply below_alloc | apply pw_below_drewN | apply below_drew1) | exact HB.out)⟩⟩
                      case round =>
                        clear H'
                        try clear c1
                        try clear c2
                        try clear p2
                        try clear c5
                        try clear c5b0
                        try clear c6
                        try clear p6
                        try clear c8
                        try clear c8b0
                        try clear c9
                        try clear c10
                        try clear c10b0
                        try clear c11
                        try clear c11b0
                        try clear c12
                        try clear c12b0
                        try clear c12b1
                        try clear c13
                        try clear c13b0
                        try clear c13b1
                        try clear p2
                        obtain ⟨x8_3, x9_3, rfl, HA, HK3, HO_8, HB⟩ := hrel
                        cases gk with
                        | zero => exact absurd HA.out (by simp [shapesearchref03_Unpack.l0])
                        | succ k3 =>
                          have H := HA.out
                          clear HA
                          simp only [shapesearchref03_Unpack.l0] at H
                          by_cases c16 : x9_3 < (wrap64 ((l0.length : Int) * 8))
                          · rw [if_pos c16] at H
                            have c16b0 : decide (x9_3 < (wrap64 ((l0.length : Int) * 8))) = true := decide_eq_true c16
                            clear c16
                            obtain ⟨ji17, hji17⟩ : ∃ j_ : Int, (wrap64 (Int.tdiv x9_3 8)) = j_ := ⟨_, rfl⟩
                            replace H : (if 0 ≤ (ji17) then (if (ji17) < (l0.length : Int) then (if 0 ≤ (Int.tmod x9_3 8) then (if (Go.bits .and .u8 (shr .u8 (rd l0 (ji17)) (Int.tmod x9_3 8)) 1) = 0 then (shapesearchref03_Unpack.l0 k3 l0 a1 a2 x8_3 (wrap64 (x9_3 + 1))) else (if x9_3 ≥ (wrap64 (a2 * a1)) then (some (([] : List Int), 3)) else (if a1 = 0 then (none) else (if 0 ≤ (wrap64 (Int.tdiv x9_3 a1)) then (if (wrap64 (Int.tdiv x9_3 a1)) < (x8_3.length : Int) then (if 0 ≤ (Int.tmod x9_3 a1) then (shapesearchref03_Unpack.l0 k3 l0 a1 a2 (x8_3.set ((wrap64 (Int.tdiv x9_3 a1)) : Int).toNat (Go.bits .or .i64 (rd x8_3 (wrap64 (Int.tdiv x9_3 a1))) (shl .i64 1 (Int.tmod x9_3 a1)))) (wrap64 (x9_3 + 1))) else (none)) else (none)) else (none))))) else (none)) else (none)) else (none)) = some (r1, r2) := by first | (rw [hji17] at H; exact H) | (simp only [hji17] at H ⊢; exact H)
                            have hji17w : (IntKind.i64.wrap (Int.tdiv x9_3 8)) = ji17 := (i64_w _).trans hji17
                            by_cases c18 : 0 ≤ (ji17)
                            · rw [if_pos c18] at H
                              have c18b0 : decide (0 ≤ (ji17)) = true := decide_eq_true c18
                              clear c18
                              by_cases c19 : (ji17) < (l0.length : Int)
                              · rw [if_pos c19] at H
                                have c19b0 : decide ((ji17) < (l0.length : Int)) = true := decide_eq_true c19
                                clear c19
                                obtain ⟨ji20, hji20⟩ : ∃ j_ : Int, (Int.tmod x9_3 8) = j_ := ⟨_, rfl⟩
                                replace H : (if 0 ≤ (ji20) then (if (Go.bits .and .u8 (shr .u8 (rd l0 (ji17)) (ji20)) 1) = 0 then (shapesearchref03_Unpack.l0 k3 l0 a1 a2 x8_3 (wrap64 (x9_3 + 1))) else (if x9_3 ≥ (wrap64 (a2 * a1)) then (some (([] : List Int), 3)) else (if a1 = 0 then (none) else (if 0 ≤ (wrap64 (Int.tdiv x9_3 a1)) then (if (wrap64 (Int.tdiv x9_3 a1)) < (x8_3.length : Int) then (if 0 ≤ (Int.tmod x9_3 a1) then (shapesearchref03_Unpack.l0 k3 l0 a1 a2 (x8_3.set ((wrap64 (Int.tdiv x9_3 a1)) : Int).toNat (Go.bits .or .i64 (rd x8_3 (wrap64 (Int.tdiv x9_3 a1))) (shl .i64 1 (Int.tmod x9_3 a1)))) (wrap64 (x9_3 + 1))) else (none)) else (none)) else (none))))) else (none)) = some (r1, r2) := by first | (rw [hji20] at H; exact H) | (simp only [hji20] at H ⊢; exact H)
                                by_cases c21 : 0 ≤ (ji20)
                                · rw [if_pos c21] at H
                                  have c21b0 := eq_true c21
                                  have c21b1 : decide (0 ≤ (ji20)) = true := decide_eq_true c21
                                  clear c21
                                  obtain ⟨ji22, hji22⟩ : ∃ j_ : Int, (shr .u8 (rd l0 (ji17)) (ji20)) = j_ := ⟨_, rfl⟩
                                  replace H : (if (Go.bits .and .u8 (ji22) 1) = 0 then (shapesearchref03_Unpack.l0 k3 l0 a1 a2 x8_3 (wrap64 (x9_3 + 1))) else (if x9_3 ≥ (wrap64 (a2 * a1)) then (some (([] : List Int), 3)) else (if a1 = 0 then (none) else (if 0 ≤ (wrap64 (Int.tdiv x9_3 a1)) then (if (wrap64 (Int.tdiv x9_3 a1)) < (x8_3.length : Int) then (if 0 ≤ (Int.tmod x9_3 a1) then (shapesearchref03_Unpack.l0 k3 l0 a1 a2 (x8_3.set ((wrap64 (Int.tdiv x9_3 a1)) : Int).toNat (Go.bits .or .i64 (rd x8_3 (wrap64 (Int.tdiv x9_3 a1))) (shl .i64 1 (Int.tmod x9_3 a1)))) (wrap64 (x9_3 + 1))) else (none)) else (none)) else (none))))) = some (r1, r2) := by first | (rw [hji22] at H; exact H) | (simp only [hji22] at H ⊢; exact H)
                                  have hji22_ : ((rd l0 (ji17)) / 2 ^ min (ji20).toNat 8) = ji22 := hji22
                                  have hji22z : (ji20) ≤ 8 → ((rd l0 (ji17)) / 2 ^ (ji20).toNat) = ji22 := shr_small hji22
                                  by_cases c23 : (Go.bits .and .u8 (ji22) 1) = 0
                                  · rw [if_pos c23] at H
                                    have c23b0 : ((Go.bits .and .u8 (ji22) 1) == 0) = true := beq_iff_eq.mpr c23
                                    have c23b1 : ((Go.bits .and .u8 (ji22) 1) != 0) = false := bne_eq_false_iff_eq.mpr c23
                                    clear c23
                                    have H' := Aside0.mk H
                                    clear H
                                    have p201 : 0 ≤ ((ji17) : Int) := of_decide_eq_true (by first | (with_reducible assumption) | assumption)
                                    have q201 : (ji17) < (l0.length : Int) := of_decide_eq_true (by first | (with_reducible assumption) | assumption)
                                    obtain ⟨ad201, e201, hx201_0⟩ := Kd.at_int HR0.out (ji17) p201 q201
                                    cases e201
                                    replace hx201_0 := (HB.out.cell (World.block_lt_of_cell? w _ hx201_0)).trans hx201_0
                                    replace p201 := eq_true p201
                                    replace q201 := eq_true q201
                                    go_wp2
                                    go_roundg k3
                                    case measure => have := HJ3.out; have := HJ6.out; have := HK3.out; omega
                                    case rel => exact ⟨(x8_3), (wrap64 (x9_3 + 1)), (by first | rfl | (simp; done) | (simp [*]; done)), H', ⟨by have := HJ3.out; have := HJ6.out; have := HK3.out; omega⟩, ⟨by (with_reducible repeat (first | apply Kd.R_alloc | apply Kd.R_drewN | apply Kd.R_drew)); exact HO_8.out⟩, ⟨by repeat (first | (with_reducible first | exact HB.out | apply below_alloc | apply pw_below_drewN | apply below_drew1) | exact HB.out)⟩⟩
                                  · rw [if_neg c23] at H
                                    have c23b0 : ((Go.bits .and .u8 (ji22) 1) == 0) = false := beq_eq_false_iff_ne.mpr c23
                                    have c23b1 : ((Go.bits .and .u8 (ji22) 1) != 0) = true := bne_iff_ne.mpr c23
                                    by_cases c24 : x9_3 ≥ (wrap64 (a2 * a1))
                                    · rw [if_pos c24] at H
                                      have c24b0 : decide ((wrap64 (a2 * a1)) ≤ x9_3) = true := decide_eq_true c24
                                      clear c24
                                      simp only [Option.some.injEq, Prod.mk.injEq] at H
                                      obtain ⟨rfl, rfl⟩ := H
                                      have p201 : 0 ≤ ((ji17) : Int) := of_decide_eq_true (by first | (with_reducible assumption) | assumption)
                                      have q201 : (ji17) < (l0.length : Int) := of_decide_eq_true (by first | (with_reducible assumption) | assumption)
                                      obtain ⟨ad201, e201, hx201_0⟩ := Kd.at_int HR0.out (ji17) p201 q201
                                      cases e201
                                      replace hx201_0 := (HB.out.cell (World.block_lt_of_cell? w _ hx201_0)).trans hx201_0
                                      replace p201 := eq_true p201
                                      replace q201 := eq_true q201
                                      go_wp2
                                      go_ret2
                                      exact ⟨_, by first | rfl | (simp [errW_none, errW_some] <;> rfl) | (simp only [← hji17, ← hji20, ← hji22]; first | rfl | (simp [errW_none, errW_some] <;> rfl)) | (simp [*, errW_none, errW_some] <;> rfl), by first | exact Kd.R_nil _ _ _ _ _ | exact Kd.N_nil _ _ _ _ _ | exact Kd.V_nil _ _ _ _ _ | exact Kd.Q_nil _ _ _ _ _ | exact Kd.S_nil _ _ _ _ _, by repeat (first | (with_reducible first | exact HB.out | apply below_alloc | apply pw_below_drewN | apply below_drew1) | exact HB.out)⟩
                                    · rw [if_neg c24] at H
                                      have c24b0 : decide ((wrap64 (a2 * a1)) ≤ x9_3) = false := decide_eq_false c24
                                      clear c24
                                      by_cases c25 : a1 = 0
                                      · rw [if_pos c25] at H
                                        exact absurd H (by simp)
                                      · rw [if_neg c25] at H
                                        have c25b0 : (a1 == 0) = false := beq_eq_false_iff_ne.mpr c25
                                        have c25b1 : (a1 != 0) = true := bne_iff_ne.mpr c25
                                        obtain ⟨ji26, hji26⟩ : ∃ j_ : Int, (wrap64 (Int.tdiv x9_3 a1)) = j_ := ⟨_, rfl⟩
                                        replace H : (if 0 ≤ (ji26) then (if (ji26) < (x8_3.length : Int) then (if 0 ≤ (Int.tmod x9_3 a1) then (shapesearchref03_Unpack.l0 k3 l0 a1 a2 (x8_3.set ((ji26) : Int).toNat (Go.bits .or .i64 (rd x8_3 (ji26)) (shl .i64 1 (Int.tmod x9_3 a1)))) (wrap64 (x9_3 + 1))) else (none)) else (none)) else (none)) = some (r1, r2) := by first | (rw [hji26] at H; exact H) | (simp only [hji26] at H ⊢; exact H)
                                        have hji26w : (IntKind.i64.wrap (Int.tdiv x9_3 a1)) = ji26 := (i64_w _).trans hji26
                                        by_cases c27 : 0 ≤ (ji26)
                                        · rw [if_pos c27] at H
                                          have c27b0 : decide (0 ≤ (ji26)) = true := decide_eq_true c27
                                          clear c27
                                          by_cases c28 : (ji26) < (x8_3.length : Int)
                                          · rw [if_pos c28] at H
                                            have c28b0 : decide ((ji26) < (x8_3.length : Int)) = true := decide_eq_true c28
                                            clear c28
                                            obtain ⟨ji29, hji29⟩ : ∃ j_ : Int, (Int.tmod x9_3 a1) = j_ := ⟨_, rfl⟩
                                            replace H : (if 0 ≤ (ji29) then (shapesearchref03_Unpack.l0 k3 l0 a1 a2 (x8_3.set ((ji26) : Int).toNat (Go.bits .or .i64 (rd x8_3 (ji26)) (shl .i64 1 (ji29)))) (wrap64 (x9_3 + 1))) else (none)) = some (r1, r2) := by first | (rw [hji29] at H; exact H) | (simp only [hji29] at H ⊢; exact H)
                                            by_cases c30 : 0 ≤ (ji29)
                                            · rw [if_pos c30] at H
                                              have c30b0 := eq_true c30
                                              have c30b1 : decide (0 ≤ (ji29)) = true := decide_eq_true c30
                                              clear c30
                                              obtain ⟨ji31, hji31⟩ : ∃ j_ : Int, (shl .i64 1 (ji29)) = j_ := ⟨_, rfl⟩
                                              replace H : (shapesearchref03_Unpack.l0 k3 l0 a1 a2 (x8_3.set ((ji26) : Int).toNat (Go.bits .or .i64 (rd x8_3 (ji26)) (ji31))) (wrap64 (x9_3 + 1))) = some (r1, r2) := by first | (rw [hji31] at H; exact H) | (simp only [hji31] at H ⊢; exact H)
                                              have hji31_ : (IntKind.i64.wrap (1 * 2 ^ min (ji29).toNat 64)) = ji31 := hji31
                                              have hji31z : (ji29) ≤ 64 → (IntKind.i64.wrap (1 * 2 ^ (ji29).toNat)) = ji31 := shl_small hji31
                                              have hji31u : (IntKind.i64.wrap (2 ^ min (ji29).toNat 64)) = ji31 := by have h_ := hji31_; rw [Int.one_mul] at h_; exact h_
                                              have hji31v : (ji29) ≤ 64 → (IntKind.i64.wrap (2 ^ (ji29).toNat)) = ji31 := fun hle_ => by have h_ := hji31z hle_; rw [Int.one_mul] at h_; exact h_
                                              have hji31y : (wrap64 (1 * 2 ^ min (ji29).toNat 64)) = ji31 := (i64_w _).symm.trans hji31_
                                              have hji31x : (ji29) ≤ 64 → (wrap64 (1 * 2 ^ (ji29).toNat)) = ji31 := fun h_ => (i64_w _).symm.trans (hji31z h_)
                                              obtain ⟨y203, hy203⟩ : ∃ y_ : List Int, y_ = (x8_3.set ((ji26) : Int).toNat (Go.bits .or .i64 (rd x8_3 (ji26)) (ji31))) := ⟨_, rfl⟩
                                              replace H : (shapesearchref03_Unpack.l0 k3 l0 a1 a2 y203 (wrap64 (x9_3 + 1))) = some (r1, r2) := by first | (rw [hy203]; with_reducible exact H) | (have H2_ := (Option.bind_some _ _).symm.trans H; rw [hy203]; with_reducible exact H2_) | (have H2_ := (Option.bind_some _ _).symm.trans H; with_reducible exact H2_) | with_reducible exact H | (rw [hy203]; exact H) | exact H
                                              have Ny203 := Aside0.mk hy203
                                              clear hy203
                                              have H' := Aside0.mk H
                                              clear H
                                              have p201 : 0 ≤ ((ji17) : Int) := of_decide_eq_true (by first | (with_reducible assumption) | assumption)
                                              have q201 : (ji17) < (l0.length : Int) := of_decide_eq_true (by first | (with_reducible assumption) | assumption)
                                              obtain ⟨ad201, e201, hx201_0⟩ := Kd.at_int HR0.out (ji17) p201 q201
                                              cases e201
                                              replace hx201_0 := (HB.out.cell (World.block_lt_of_cell? w _ hx201_0)).trans hx201_0
                                              replace p201 := eq_true p201
                                              replace q201 := eq_true q201
                                              try go_wp2
                                              have n0_ := Aside0.mk (Kd.R_drew HO_8.out)
                                              have n1_ := Aside0.mk (below_drew1 HB.out)
                                              clear HO_8
                                              clear HB
                                              have HO_8 := n0_
                                              have HB := n1_
                                              clear n0_ n1_
                                              obtain ⟨Ao34, co34, eo34⟩ := Kd.R_slice HO_8.out
                                              (first | subst eo34 | (injection eo34 with f1_ f2_ f3_; have f4_ := f1_.symm; have f5_ := f3_.symm; clear f1_ f2_ f3_; subst f4_; subst f5_))
                                              have p202 : 0 ≤ ((ji26) : Int) := of_decide_eq_true (by first | (with_reducible assumption) | assumption)
                                              have q202 : (ji26) < (x8_3.length : Int) := of_decide_eq_true (by first | (with_reducible assumption) | assumption)
                                              obtain ⟨ad202, e202, hx202_0⟩ := Kd.at_int (Kd.R_reads' HO_8.out).2.2 (ji26) p202 q202
                                              cases e202
                                              replace p202 := eq_true p202
                                              replace q202 := eq_true q202
                                              have p32 : 0 ≤ ((ji26) : Int) := of_decide_eq_true (by first | (with_reducible assumption) | assumption)
                                              have q32 : ((ji26) : Int) < ((x8_3.length : Int) : Int) := of_decide_eq_true (by first | (with_reducible assumption) | assumption)
                                              obtain ⟨go32, co32, eo32, gb32, gl32, cl32, HG32⟩ := Kd.R_form HO_8.out (by omega)
                                              (first | cases eo32 | (injection eo32 with ea_ en_ ec_; (first | subst ea_ | (injection ea_ with ea_; subst ea_)); subst ec_; clear en_))
                                              have GB32 := Aside0.mk gb32
                                              have GG32 := Aside0.mk HG32
                                              clear gb32 gl32 HG32
                                              (first | simp only [add_plain] at hx202_0 | skip)
                                              obtain ⟨hx32_0, hf32_0⟩ := Kd.R_celln 0 HO_8.out ((ji26) : Int) p32 q32
                                              replace p32 := eq_true p32
                                              replace q32 := eq_true q32
                                              have HP35 := Kd.R_putn HO_8.out ((ji26) : Int) (Go.bits .or .i64 (rd x8_3 (ji26)) (ji31))
                                              rw [← Ny203.out] at HP35
                                              have HQ35 := Aside0.mk HP35
                                              clear HP35
                                              refine start_ (n := 13) (S := fun w' => w'.cell? ⟨go32, ((ji26)).toNat, none⟩ = some (.int .i64 (rd x8_3 (ji26)))) (ds := [12]) #[false, false, false, false, false, false, false, false, false, false, false, false, false] (by kernel_rfl) rfl rfl (hx202_0) (fun hHeld => ?_); refine with_tabW shapesearchref03_Unpack.tab16 shapesearchref03_Unpack.bits16 (fun HT_ HW_ => ?_)
                                              generalize wr.drew = w33 at HO_8 HB GG32 HQ35 hf32_0 hx202_0 hx32_0 hHeld ⊢
                                              refine pure_ (i := 0) (N := some 62) (v := ?_) (a' := ?_) #[true, false, false, false, false, false, false, false, false, false, false, false, false] rfl rfl (any_of HT_.out (by kernel_rfl)) (fun _ _ _ h => h) (Or.inl ⟨by rfl, ?_⟩) ?_ ?_
                                              rotate_left
                                              · intro w'
                                                go_simp
                                                with_reducible rfl
                                              rotate_left
                                              · simp only [Act.put, List.setIfInBounds_toArray, List.set_cons_zero, List.set_cons_succ, i64_w, i32_w]
                                                rfl
                                              refine pure_ (i := 1) (N := some 63) (v := ?_) (a' := ?_) #[true, true, false, false, false, false, false, false, false, false, false, false, false] rfl rfl (any_of HT_.out (by kernel_rfl)) (fun _ _ _ h => h) (Or.inl ⟨by rfl, ?_⟩) ?_ ?_
                                              rotate_left
                                              · intro w'
                                                go_simp
                                                with_reducible rfl
                                              rotate_left
                                              · simp only [Act.put, List.setIfInBounds_toArray, List.set_cons_zero, List.set_cons_succ, i64_w, i32_w]
                                                rfl
                                              refine pure_ (i := 2) (N := some 64) (v := ?_) (a' := ?_) #[true, true, true, false, false, false, false, false, false, false, false, false, false] rfl rfl (any_of HT_.out (by kernel_rfl)) (fun _ _ _ h => h) (Or.inl ⟨by rfl, ?_⟩) ?_ ?_
                                              rotate_left
                                              · intro w'
                                                go_simp
                                                with_reducible rfl
                                              rotate_left
                                              · simp only [Act.put, List.setIfInBounds_toArray, List.set_cons_zero, List.set_cons_succ, i64_w, i32_w]
                                                rfl
                                              refine pure_ (i := 3) (N := some 65) (v := ?_) (a' := ?_) #[true, true, true, true, false, false, false, false, false, false, false, false, false] rfl rfl (any_of HT_.out (by kernel_rfl)) (fun _ _ _ h => h) (Or.inl ⟨by rfl, ?_⟩) ?_ ?_
                                              rotate_left
                                              · intro w'
                                                go_simp
                                                with_reducible rfl
                                              rotate_left
                                              · simp only [Act.put, List.setIfInBounds_toArray, List.set_cons_zero, List.set_cons_succ, i64_w, i32_w]
                                                rfl
                                              refine pure_ (i := 4) (N := some 66) (v := ?_) (a' := ?_) #[true, true, true, true, true, false, false, false, false, false, false, false, false] rfl rfl (any_of HT_.out (by kernel_rfl)) (fun _ _ _ h => h) (Or.inl ⟨by rfl, ?_⟩) ?_ ?_
                                              rotate_left
                                              · intro w'
                                                go_simp
                                                with_reducible rfl
                                              rotate_left
                                              · simp only [Act.put, List.setIfInBounds_toArray, List.set_cons_zero, List.set_cons_succ, i64_w, i32_w]
                                                rfl
                                              refine pure_ (i := 6) (N := some 68) (v := ?_) (a' := ?_) #[true, true, true, true, true, false, true, false, false, false, false, false, false] rfl rfl (any_of HT_.out (by kernel_rfl)) (fun _ _ _ h => h) (Or.inl ⟨by rfl, ?_⟩) ?_ ?_
                                              rotate_left
                                              · intro w'
                                                go_simp
                                                with_reducible rfl
                                              rotate_left
                                              · simp only [Act.put, List.setIfInBounds_toArray, List.set_cons_zero, List.set_cons_succ, i64_w, i32_w]
                                                rfl
                                              refine pure_ (i := 7) (N := some 69) (v := ?_) (a' := ?_) #[true, true, true, true, true, false, true, true, false, false, false, false, false] rfl rfl (any_of HT_.out (by kernel_rfl)) (fun _ _ _ h => h) (Or.inl ⟨by rfl, ?_⟩) ?_ ?_
                                              rotate_left
                                              · intro w'
                                                go_simp
                                                with_reducible rfl
                                              rotate_left
                                              · simp only [Act.put, List.setIfInBounds_toArray, List.set_cons_zero, List.set_cons_succ, i64_w, i32_w]
                                                rfl
                                              refine pure_ (i := 8) (N := some 70) (v := ?_) (a' := ?_) #[true, true, true, true, true, false, true, true, true, false, false, false, false] rfl rfl (any_of HT_.out (by kernel_rfl)) (fun _ _ _ h => h) (Or.inl ⟨by rfl, ?_⟩) ?_ ?_
                                              rotate_left
                                              · intro w'
                                                go_simp
                                                with_reducible rfl
                                              rotate_left
                                              · simp only [Act.put, List.setIfInBounds_toArray, List.set_cons_zero, List.set_cons_succ, i64_w, i32_w]
                                                rfl
                                              refine pure_ (i := 9) (N := some 71) (v := ?_) (a' := ?_) #[true, true, true, true, true, false, true, true, true, true, false, false, false] rfl rfl (any_of HT_.out (by kernel_rfl)) (fun _ _ _ h => h) (Or.inl ⟨by rfl, ?_⟩) ?_ ?_
                                              rotate_left
                                              · intro w'
                                                go_simp
                                                with_reducible rfl
                                              rotate_left
                                              · simp only [Act.put, List.setIfInBounds_toArray, List.set_cons_zero, List.set_cons_succ, i64_w, i32_w]
                                                rfl
                                              refine take_ (i := 5) (N := some 67) (v := ?_) (a' := ?_) #[true, true, true, true, true, true, true, true, true, true, false, false, false] rfl rfl (take_ofW HT_.out HW_.out (by kernel_rfl)) (fun _ _ _ h => h) (Or.inl ⟨by rfl, ?_⟩) hHeld ?_ ?_
                                              rotate_left
                                              · intro w' s0
                                                go_simp
                                                with_reducible rfl
                                              rotate_left
                                              · simp only [Act.put, List.setIfInBounds_toArray, List.set_cons_zero, List.set_cons_succ, i64_w, i32_w]
                                                rfl
                                              refine pure_ (i := 10) (N := some 72) (v := ?_) (a' := ?_) #[true, true, true, true, true, true, true, true, true, true, true, false, false] rfl rfl (any_of HT_.out (by kernel_rfl)) (fun _ _ _ h => h) (Or.inl ⟨by rfl, ?_⟩) ?_ ?_
                                              rotate_left
                                              · intro w'
                                                go_simp
                                                with_reducible rfl
                                              rotate_left
                                              · simp only [Act.put, List.setIfInBounds_toArray, List.set_cons_zero, List.set_cons_succ, i64_w, i32_w]
                                                rfl
                                              refine pure_ (i := 11) (N := some 73) (v := ?_) (a' := ?_) #[true, true, true, true, true, true, true, true, true, true, true, true, false] rfl rfl (any_of HT_.out (by kernel_rfl)) (fun _ _ _ h => h) (Or.inl ⟨by rfl, ?_⟩) ?_ ?_
                                              rotate_left
                                              · intro w'
                                                go_simp
                                                with_reducible rfl
                                              rotate_left
                                              · simp only [Act.put, List.setIfInBounds_toArray, List.set_cons_zero, List.set_cons_succ, i64_w, i32_w]
                                                rfl
                                              refine last_ (i := 12) (N := none) #[true, true, true, true, true, true, true, true, true, true, true, true, true] rfl rfl (one_of HT_.out (by kernel_rfl)) (by decide) (fun K hK => ?_)
                                              refine skip_ (w1 := ?_) (by rfl) rfl ?_ ?_
                                              rotate_left
                                              · go_simp
                                                rfl
                                              refine hK.out _ _ ?_
                                              clear hK K
                                              refine done_ (done_of HT_.out (by kernel_rfl)) ?_
                                              try go_wp2
                                              go_roundg k3
                                              case measure => have := HJ3.out; have := HJ6.out; have := HK3.out; omega
                                              case rel => exact ⟨(y203), (wrap64 (x9_3 + 1)), (by first | rfl | (simp; done) | (simp [*]; done)), H', ⟨by have := HJ3.out; have := HJ6.out; have := HK3.out; omega⟩, ⟨by (with_reducible repeat (first | apply Kd.R_alloc | apply Kd.R_drewN | apply Kd.R_drew)); exact HQ35.out⟩, ⟨by repeat (first | (with_reducible first | exact HB.out | apply below_alloc | apply pw_below_drewN | apply below_drew1 | refine below_set ?_ GB32.out) | exact HB.out)⟩⟩
                                            · rw [if_neg c30] at H
                                              exact absurd H (by simp)
                                          · rw [if_neg c28] at H
                                            exact absurd H (by simp)
                                        · rw [if_neg c27] at H
                                          exact absurd H (by simp)
                                · rw [if_neg c21] at H
                                  exact absurd H (by simp)
                              · rw [if_neg c19] at H
                                exact absurd H (by simp)
                            · rw [if_neg c18] at H
                              exact absurd H (by simp)
                          · rw [if_neg c16] at H
                            have c16b0 : decide (x9_3 < (wrap64 ((l0.length : Int) * 8))) = false := decide_eq_false c16
                            clear c16
                            simp only [Option.some.injEq, Prod.mk.injEq] at H
                            obtain ⟨rfl, rfl⟩ := H
                            go_wp2
                            go_ret2
                            exact ⟨_, by first | rfl | (simp [errW_none, errW_some] <;> rfl) | (simp [*, errW_none, errW_some] <;> rfl), by (with_reducible repeat (first | apply Kd.R_alloc | apply Kd.R_drewN | apply Kd.R_drew)); exact HO_8.out, by repeat (first | (with_reducible first | exact HB.out | apply below_alloc | apply pw_below_drewN | apply below_drew1) | exact HB.out)⟩
                    · rw [if_neg c13] at H
                      exact absurd H (by simp)
                  · rw [if_neg c12] at H
                    exact absurd H (by simp)

/-! ### shapesearchkeep_Ints: function 27 -/
def shapesearchkeep_Ints.l0 : Nat → List Int → List Int → Int → Int → Option (Bool)
  | 0, _, _, _, _ => none
  | k + 1, x0, x1, x12, x13 => if x13 < x12 then (if 0 ≤ x13 then (if x13 < (x0.length : Int) then (if x13 < (x1.length : Int) then (if (rd x0 x13) = (rd x1 x13) then (shapesearchkeep_Ints.l0 k x0 x1 x12 (wrap64 (x13 + 1))) else (some false)) else (none)) else (none)) else (none)) else (some true)
def shapesearchkeep_Ints.f (k : Nat) (l0 : List Int) (l1 : List Int) : Option (Bool) := if (l0.length : Int) = (l1.length : Int) then (shapesearchkeep_Ints.l0 k l0 l1 (l0.length : Int) 0) else (some false)
theorem shapesearchkeep_Ints.mono_l : ∀ k, (∀ y0 y1 y2 y3, LeO (shapesearchkeep_Ints.l0 k y0 y1 y2 y3) (shapesearchkeep_Ints.l0 (k + 1) y0 y1 y2 y3))
  | 0 => fun _ _ _ _ r h => by simp [shapesearchkeep_Ints.l0] at h
  | k + 1 => by
    have ih0 := shapesearchkeep_Ints.mono_l k
    · intro y0 y1 y2 y3
      unfold shapesearchkeep_Ints.l0
      repeat' first
      | (with_reducible exact ih0 _ _ _ _)
      | (with_reducible exact LeO.refl _)
      | (with_reducible exact LeO.none _)
      | (with_reducible refine LeO.ite ?_ ?_)
      | (with_reducible refine LeO.bind ?_ (fun _ => ?_))
      | exact ih0 _ _ _ _
      | exact LeO.none _
      | refine LeO.ite ?_ ?_
      | refine LeO.bind ?_ (fun _ => ?_)
theorem shapesearchkeep_Ints.mono : ∀ a0 a1 k, LeO (shapesearchkeep_Ints.f k a0 a1) (shapesearchkeep_Ints.f (k + 1) a0 a1) := by
  intro a0 a1 k
  have ih0 := shapesearchkeep_Ints.mono_l k
  unfold shapesearchkeep_Ints.f
  repeat' first
      | (with_reducible exact ih0 _ _ _ _)
      | (with_reducible exact LeO.refl _)
      | (with_reducible exact LeO.none _)
      | (with_reducible refine LeO.ite ?_ ?_)
      | (with_reducible refine LeO.bind ?_ (fun _ => ?_))
      | exact ih0 _ _ _ _
      | exact LeO.none _
      | refine LeO.ite ?_ ?_
      | refine LeO.bind ?_ (fun _ => ?_)
set_option maxHeartbeats 8000000 in
set_option maxRecDepth 100000 in
theorem shapesearchkeep_Ints.calls (k : Nat) (A0 : Option Addr) (c0 : Nat) (l0 : List Int) (A1 : Option Addr) (c1 : Nat) (l1 : List Int) (r : Bool) (w : World) (hr0 : Kd.C (Kd.int .i64) w A0 l0.length l0) (hc0 : l0.length ≤ c0) (hr1 : Kd.C (Kd.int .i64) w A1 l1.length l1) (hc1 : l1.length ≤ c1) (h : shapesearchkeep_Ints.f k l0 l1 = some r) :
    Calls Try.prog 27 #[.slice A0 l0.length c0, .slice A1 l1.length c1] w fun e w' => e = .returned (.bool r) ∧ Drawn0 w w' := by
  have HR0 := Aside0.mk hr0
  have HC0 := Aside0.mk hc0
  clear hr0 hc0
  have HR1 := Aside0.mk hr1
  have HC1 := Aside0.mk hc1
  clear hr1 hc1
  have H : (if (l0.length : Int) = (l1.length : Int) then (shapesearchkeep_Ints.l0 k l0 l1 (l0.length : Int) 0) else (some false)) = some r := h
  clear h
  by_cases c3 : (l0.length : Int) = (l1.length : Int)
  · rw [if_pos c3] at H
    have c3b0 : ((l0.length : Int) == (l1.length : Int)) = true := beq_iff_eq.mpr c3
    have c3b1 : ((l0.length : Int) != (l1.length : Int)) = false := bne_eq_false_iff_eq.mpr c3
    have c3b2 : (l0.length == l1.length) = true := by first | simpa using c3 | (simp at c3 ⊢; omega)
    clear c3
    have H' := Aside0.mk H
    clear H
    go_enter Try.func27, Try.ntmps27
    go_wp2
    repeat (go_quiet (fail); try go_wp2)
    go_loopg [13] k (fun kq v13 w' => ∃ (x13_1 : Int), v13 = .int .i64 x13_1 ∧ Aside0 (shapesearchkeep_Ints.l0 kq l0 l1 (l0.length : Int) x13_1 = some r) ∧ Aside0 (kq ≤ k) ∧ Drawn0 w w')
    case atStart => exact ⟨(0), (by first | rfl | (simp; done) | (simp [*]; done)), H', ⟨Nat.le_refl _⟩, by repeat (first | exact Drawn0.refl _ | apply Drawn0.step)⟩
    case round =>
      clear H'
      try clear c1
      try clear c2
      try clear p2
      try clear c3
      try clear c3b0
      try clear c3b1
      try clear c3b2
      obtain ⟨x13_1, rfl, HA, HK1, ⟨m1, rfl⟩⟩ := hrel
      cases gk with
      | zero => exact absurd HA.out (by simp [shapesearchkeep_Ints.l0])
      | succ k1 =>
        have H := HA.out
        clear HA
        simp only [shapesearchkeep_Ints.l0] at H
        by_cases c4 : x13_1 < (l0.length : Int)
        · rw [if_pos c4] at H
          have c4b0 : decide (x13_1 < (l0.length : Int)) = true := decide_eq_true c4
          clear c4
          by_cases c5 : 0 ≤ x13_1
          · rw [if_pos c5] at H
            have c5b0 : decide (0 ≤ x13_1) = true := decide_eq_true c5
            clear c5
            by_cases c6 : x13_1 < (l0.length : Int)
            · rw [if_pos c6] at H
              have c6b0 : decide (x13_1 < (l0.length : Int)) = true := decide_eq_true c6
              clear c6
              by_cases c7 : x13_1 < (l1.length : Int)
              · rw [if_pos c7] at H
                have c7b0 : decide (x13_1 < (l1.length : Int)) = true := decide_eq_true c7
                clear c7
                by_cases c8 : (rd l0 x13_1) = (rd l1 x13_1)
                · rw [if_pos c8] at H
                  have c8b0 : ((rd l0 x13_1) == (rd l1 x13_1)) = true := beq_iff_eq.mpr c8
                  have c8b1 : ((rd l0 x13_1) != (rd l1 x13_1)) = false := bne_eq_false_iff_eq.mpr c8
                  clear c8
                  have H' := Aside0.mk H
                  clear H
                  have p204 : 0 ≤ (x13_1 : Int) := of_decide_eq_true (by first | (with_reducible assumption) | assumption)
                  have q204 : x13_1 < (l0.length : Int) := of_decide_eq_true (by first | (with_reducible assumption) | assumption)
                  obtain ⟨ad204, e204, hx204_0⟩ := Kd.at_int HR0.out x13_1 p204 q204
                  cases e204
                  replace p204 := eq_true p204
                  replace q204 := eq_true q204
                  have p205 : 0 ≤ (x13_1 : Int) := of_decide_eq_true (by first | (with_reducible assumption) | assumption)
                  have q205 : x13_1 < (l1.length : Int) := of_decide_eq_true (by first | (with_reducible assumption) | assumption)
                  obtain ⟨ad205, e205, hx205_0⟩ := Kd.at_int HR1.out x13_1 p205 q205
                  cases e205
                  replace p205 := eq_true p205
                  replace q205 := eq_true q205
                  go_wp2
                  repeat (go_quiet (fail); try go_wp2)
                  go_roundg k1
                  case measure => have := HK1.out; omega
                  case rel => exact ⟨(wrap64 (x13_1 + 1)), (by first | rfl | (simp; done) | (simp [*]; done)), H', ⟨by have := HK1.out; omega⟩, by repeat (first | exact Drawn0.refl _ | apply Drawn0.step)⟩
                · rw [if_neg c8] at H
                  have c8b0 : ((rd l0 x13_1) == (rd l1 x13_1)) = false := beq_eq_false_iff_ne.mpr c8
                  have c8b1 : ((rd l0 x13_1) != (rd l1 x13_1)) = true := bne_iff_ne.mpr c8
                  obtain rfl := Option.some.inj H
                  have p204 : 0 ≤ (x13_1 : Int) := of_decide_eq_true (by first | (with_reducible assumption) | assumption)
                  have q204 : x13_1 < (l0.length : Int) := of_decide_eq_true (by first | (with_reducible assumption) | assumption)
                  obtain ⟨ad204, e204, hx204_0⟩ := Kd.at_int HR0.out x13_1 p204 q204
                  cases e204
                  replace p204 := eq_true p204
                  replace q204 := eq_true q204
                  have p205 : 0 ≤ (x13_1 : Int) := of_decide_eq_true (by first | (with_reducible assumption) | assumption)
                  have q205 : x13_1 < (l1.length : Int) := of_decide_eq_true (by first | (with_reducible assumption) | assumption)
                  obtain ⟨ad205, e205, hx205_0⟩ := Kd.at_int HR1.out x13_1 p205 q205
                  cases e205
                  replace p205 := eq_true p205
                  replace q205 := eq_true q205
                  go_wp2
                  repeat (go_quiet (fail); try go_wp2)
                  go_ret
                  exact ⟨by first | rfl | (simp; done) | (simp [*]; done), by repeat (first | exact Drawn0.refl _ | apply Drawn0.step)⟩
              · rw [if_neg c7] at H
                exact absurd H (by simp)
            · rw [if_neg c6] at H
              exact absurd H (by simp)
          · rw [if_neg c5] at H
            exact absurd H (by simp)
        · rw [if_neg c4] at H
          have c4b0 : decide (x13_1 < (l0.length : Int)) = false := decide_eq_false c4
          clear c4
          obtain rfl := Option.some.inj H
          go_wp2
          repeat (go_quiet (fail); try go_wp2)
          go_ret
          exact ⟨by first | rfl | (simp; done) | (simp [*]; done), by repeat (first | exact Drawn0.refl _ | apply Drawn0.step)⟩
  · rw [if_neg c3] at H
    have c3b0 : ((l0.length : Int) == (l1.length : Int)) = false := beq_eq_false_iff_ne.mpr c3
    have c3b1 : ((l0.length : Int) != (l1.length : Int)) = true := bne_iff_ne.mpr c3
    have c3b2 : (l0.length == l1.length) = false := by first | simpa using c3 | (simp at c3 ⊢; omega)
    obtain rfl := Option.some.inj H
    go_enter Try.func27, Try.ntmps27
    go_wp2
    repeat (go_quiet (fail); try go_wp2)
    go_ret
    exact ⟨by first | rfl | (simp; done) | (simp [*]; done), by repeat (first | exact Drawn0.refl _ | apply Drawn0.step)⟩

end Go.Proofs.Ytemeojkmchgkjaa.PCodecAnswers
