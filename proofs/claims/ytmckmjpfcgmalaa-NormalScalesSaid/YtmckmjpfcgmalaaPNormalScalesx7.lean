/- This file proves, function by function, what the Go functions that one law uses compute; most of it was printed by a program (wip/tools of this session, over the kit's print). -/
import Derived.Test.YtmckmjpfcgmalaaPNormalScalesx0
import Derived.Test.YtmckmjpfcgmalaaPNormalScalesx1
import Derived.Test.YtmckmjpfcgmalaaPNormalScalesx2
import Derived.Test.YtmckmjpfcgmalaaPNormalScalesx3
import Derived.Test.YtmckmjpfcgmalaaPNormalScalesx5
import Derived.Test.YtmckmjpfcgmalaaPNormalScalesx6
namespace Go.Proofs.Ytmckmjpfcgmalaa.PNormalScales
open Go.RowKit Go.Proofs.YtmckmjpfcgmalaaW.PrintWords Go.Proofs.YtmckmjpfcgmalaaW.PrintLast Go.Proofs.YtmckmjpfcgmalaaW.PrintMore
attribute [local go_sem] max2_int min2_int max_two min_two max_three min_three max_four min_four   -- for this text's walks alone
set_option linter.unusedVariables false
set_option linter.unusedSimpArgs false

attribute [local go_sem high] eqA29
/-! ### shapesearchlaw13_NormalScales: function 3 -/
mutual
def shapesearchlaw13_NormalScales.l0 : Nat → Int → List Int → List Int → Int → List Int → List Int → Int → Int → Option (Bool)
  | 0, _, _, _, _, _, _, _, _ => none
  | k + 1, x2, x8, x9, x10, x11, x12, x35, x36 => if x36 < x35 then (if 0 ≤ x36 then (if x36 < (x8.length : Int) then (if x36 < (x9.length : Int) then ((some (x8.set (x36 : Int).toNat (wrap64 (Int.tdiv (rd x8 x36) 5)) : List Int)).bind fun y309 => ((some (([wrap64 ((wrap64 ((rd y309 x36) * x10)) + (wrap64 (x2)))] : List Int) : List Int)).bind fun y312 => (if x11.length + y312.length < 17592186044416 then ((some (([wrap64 ((wrap64 (x2)) - (wrap64 ((rd y309 x36) * x10)))] : List Int) : List Int)).bind fun y319 => (if x12.length + y319.length < 17592186044416 then (shapesearchlaw13_NormalScales.l0 k x2 y309 (x9.set (x36 : Int).toNat (wrap64 (Int.tdiv (rd x9 x36) 5))) x10 (x11 ++ y312) (x12 ++ y319) x35 (wrap64 (x36 + 1))) else (none))) else (none)))) else (none)) else (none)) else (none)) else ((normal_Gap.f k x8 x9).bind fun bt325 => ((normal_Gap.f k x11 x9).bind fun bt329 => ((normal_Gap.f k x8 x11).bind fun bt333 => ((normal_Gap.f k x8 x12).bind fun bt337 => ((shapesearchlaw13_spread.f k x8).bind fun t342 => (if t342 = true then (shapesearchlaw13_NormalScales.j1 k bt325.2.2 bt329.2.2 bt333.2.2 bt337.2.2 bt325.1 bt325.2.1 bt329.1 bt329.2.1 bt333.1 bt333.2.1 bt337.1 bt337.2.1 2 1) else (shapesearchlaw13_NormalScales.j1 k bt325.2.2 bt329.2.2 bt333.2.2 bt337.2.2 bt325.1 bt325.2.1 bt329.1 bt329.2.1 bt333.1 bt333.2.1 bt337.1 bt337.2.1 0 1)))))))
def shapesearchlaw13_NormalScales.j1 : Nat → Int → Int → Int → Int → Int → Int → Int → Int → Int → Int → Int → Int → Int → Int → Option (Bool)
  | 0, _, _, _, _, _, _, _, _, _, _, _, _, _, _ => none
  | k + 1, x15, x17, x19, x21, x329000, x329001, x333000, x333001, x337000, x337001, x341000, x341001, x342000, x342001 => if x15 = 0 then (if x17 = 0 then (if x19 = 0 then (if x21 = 0 then (if (x329000 == x333000 && (x329001 == x333001)) = true then (if (x337000 == 0 && (x337001 == 1)) = true then (if (x341000 == x342000 && (x341001 == x342001)) = true then ((shapesearchlaw13_awake.f k).bind fun t343 => (some t343)) else (some false)) else (some false)) else (some false)) else (some false)) else (some false)) else (some false)) else (some false)
end
def shapesearchlaw13_NormalScales.f (k : Nat) (l0 : List Int) (a1 : Int) (a2 : Int) : Option (Bool) := (shapesearchkeep_New.f l0).bind fun bt297 => ((shapesearchkeep_Src_Pair.f k bt297.1 bt297.2).bind fun bt300 => (shapesearchlaw13_NormalScales.l0 k a2 bt300.1 bt300.2.1 (wrap64 (1 + (Int.tmod (wrap64 (a1)) 4))) ([] : List Int) ([] : List Int) (bt300.1.length : Int) 0))
theorem shapesearchlaw13_NormalScales.mono_l : ∀ k, (∀ y0 y1 y2 y3 y4 y5 y6 y7, LeO (shapesearchlaw13_NormalScales.l0 k y0 y1 y2 y3 y4 y5 y6 y7) (shapesearchlaw13_NormalScales.l0 (k + 1) y0 y1 y2 y3 y4 y5 y6 y7)) ∧ (∀ y0 y1 y2 y3 y4 y5 y6 y7 y8 y9 y10 y11 y12 y13, LeO (shapesearchlaw13_NormalScales.j1 k y0 y1 y2 y3 y4 y5 y6 y7 y8 y9 y10 y11 y12 y13) (shapesearchlaw13_NormalScales.j1 (k + 1) y0 y1 y2 y3 y4 y5 y6 y7 y8 y9 y10 y11 y12 y13))
  | 0 => ⟨fun _ _ _ _ _ _ _ _ r h => by simp [shapesearchlaw13_NormalScales.l0] at h, fun _ _ _ _ _ _ _ _ _ _ _ _ _ _ r h => by simp [shapesearchlaw13_NormalScales.j1] at h⟩
  | k + 1 => by
    obtain ⟨ih0, ih1⟩ := shapesearchlaw13_NormalScales.mono_l k
    refine ⟨?_, ?_⟩
    · intro y0 y1 y2 y3 y4 y5 y6 y7
      unfold shapesearchlaw13_NormalScales.l0
      repeat' first
      | (with_reducible exact ih0 _ _ _ _ _ _ _ _)
      | (with_reducible exact ih1 _ _ _ _ _ _ _ _ _ _ _ _ _ _)
      | (with_reducible exact normal_Gap.mono _ _ _)
      | (with_reducible exact shapesearchkeep_Src_Pair.mono _ _ _)
      | (with_reducible exact shapesearchlaw13_awake.mono _)
      | (with_reducible exact shapesearchlaw13_spread.mono _ _)
      | (with_reducible exact LeO.refl _)
      | (with_reducible exact LeO.none _)
      | (with_reducible refine LeO.ite ?_ ?_)
      | (with_reducible refine LeO.bind ?_ (fun _ => ?_))
      | exact ih0 _ _ _ _ _ _ _ _
      | exact ih1 _ _ _ _ _ _ _ _ _ _ _ _ _ _
      | exact normal_Gap.mono _ _ _
      | exact shapesearchkeep_Src_Pair.mono _ _ _
      | exact shapesearchlaw13_awake.mono _
      | exact shapesearchlaw13_spread.mono _ _
      | exact LeO.none _
      | refine LeO.ite ?_ ?_
      | refine LeO.bind ?_ (fun _ => ?_)
    · intro y0 y1 y2 y3 y4 y5 y6 y7 y8 y9 y10 y11 y12 y13
      unfold shapesearchlaw13_NormalScales.j1
      repeat' first
      | (with_reducible exact ih0 _ _ _ _ _ _ _ _)
      | (with_reducible exact ih1 _ _ _ _ _ _ _ _ _ _ _ _ _ _)
      | (with_reducible exact normal_Gap.mono _ _ _)
      | (with_reducible exact shapesearchkeep_Src_Pair.mono _ _ _)
      | (with_reducible exact shapesearchlaw13_awake.mono _)
      | (with_reducible exact shapesearchlaw13_spread.mono _ _)
      | (with_reducible exact LeO.refl _)
      | (with_reducible exact LeO.none _)
      | (with_reducible refine LeO.ite ?_ ?_)
      | (with_reducible refine LeO.bind ?_ (fun _ => ?_))
      | exact ih0 _ _ _ _ _ _ _ _
      | exact ih1 _ _ _ _ _ _ _ _ _ _ _ _ _ _
      | exact normal_Gap.mono _ _ _
      | exact shapesearchkeep_Src_Pair.mono _ _ _
      | exact shapesearchlaw13_awake.mono _
      | exact shapesearchlaw13_spread.mono _ _
      | exact LeO.none _
      | refine LeO.ite ?_ ?_
      | refine LeO.bind ?_ (fun _ => ?_)
theorem shapesearchlaw13_NormalScales.mono : ∀ a0 a1 a2 k, LeO (shapesearchlaw13_NormalScales.f k a0 a1 a2) (shapesearchlaw13_NormalScales.f (k + 1) a0 a1 a2) := by
  intro a0 a1 a2 k
  obtain ⟨ih0, ih1⟩ := shapesearchlaw13_NormalScales.mono_l k
  unfold shapesearchlaw13_NormalScales.f
  repeat' first
      | (with_reducible exact ih0 _ _ _ _ _ _ _ _)
      | (with_reducible exact ih1 _ _ _ _ _ _ _ _ _ _ _ _ _ _)
      | (with_reducible exact normal_Gap.mono _ _ _)
      | (with_reducible exact shapesearchkeep_Src_Pair.mono _ _ _)
      | (with_reducible exact shapesearchlaw13_awake.mono _)
      | (with_reducible exact shapesearchlaw13_spread.mono _ _)
      | (with_reducible exact LeO.refl _)
      | (with_reducible exact LeO.none _)
      | (with_reducible refine LeO.ite ?_ ?_)
      | (with_reducible refine LeO.bind ?_ (fun _ => ?_))
      | exact ih0 _ _ _ _ _ _ _ _
      | exact ih1 _ _ _ _ _ _ _ _ _ _ _ _ _ _
      | exact normal_Gap.mono _ _ _
      | exact shapesearchkeep_Src_Pair.mono _ _ _
      | exact shapesearchlaw13_awake.mono _
      | exact shapesearchlaw13_spread.mono _ _
      | exact LeO.none _
      | refine LeO.ite ?_ ?_
      | refine LeO.bind ?_ (fun _ => ?_)
def shapesearchlaw13_NormalScales.T8 : Bool × List (List Nat × List Nat) := (true, [([], []), ([], []), ([], []), ([], []), ([], []), ([], []), ([4, 5], [4, 5]), ([6], [6]), ([7], [7]), ([], []), ([], []), ([9, 10], [9, 10]), ([11], [11]), ([12], [12]), ([0, 1, 0, 1, 4, 5, 6, 7, 8, 12], [0, 1]), ([14, 8, 0, 1, 4, 5, 6, 7, 8, 12], [8, 14]), ([2, 3, 0, 1, 2, 3, 4, 5, 6, 7, 8, 9, 10, 11, 12, 13, 14, 15], [2, 3]), ([16, 13, 15, 0, 1, 2, 3, 4, 5, 6, 7, 8, 9, 10, 11, 12, 13, 14, 15], [13, 16])])
def shapesearchlaw13_NormalScales.B8 : List Nat := [0, 0, 0, 0, 0, 0, 48, 112, 240, 0, 0, 1536, 3584, 7680, 8179, 24563, 65535, 131071]
theorem shapesearchlaw13_NormalScales.tab8 : rtab .any (opsOf Try.f3 8) = shapesearchlaw13_NormalScales.T8 := by kernel_rfl
theorem shapesearchlaw13_NormalScales.bits8 : waitsOk shapesearchlaw13_NormalScales.T8.2 shapesearchlaw13_NormalScales.B8 = true := by kernel_rfl
def shapesearchlaw13_NormalScales.T9 : Bool × List (List Nat × List Nat) := (true, [([], []), ([], []), ([], []), ([1, 2], [1, 2]), ([3], [3]), ([], []), ([4, 5], [4, 5]), ([], []), ([7], [7]), ([6, 8], [6, 8]), ([9], [9]), ([0, 10], [0, 10]), ([], []), ([], []), ([13], [13]), ([], []), ([], []), ([15, 16], [15, 16]), ([17], [17]), ([], []), ([18, 19], [18, 19]), ([14, 20], [14, 20]), ([21], [21]), ([12, 22, 11], [12, 22]), ([11, 23, 0, 1, 2, 3, 4, 5, 6, 7, 8, 9, 10, 11], [0, 11]), ([23, 24, 0, 1, 2, 3, 4, 5, 6, 7, 8, 9, 10, 11, 12, 13, 14, 15, 16, 17, 18, 19, 20, 21, 22, 23, 24], [12, 23])])
def shapesearchlaw13_NormalScales.B9 : List Nat := [0, 0, 0, 6, 14, 0, 62, 0, 128, 510, 1022, 2047, 0, 0, 8192, 0, 0, 98304, 229376, 0, 1015808, 2088960, 4186112, 8388607, 16777215, 33554431]
theorem shapesearchlaw13_NormalScales.tab9 : rtab .any (opsOf Try.f3 9) = shapesearchlaw13_NormalScales.T9 := by kernel_rfl
theorem shapesearchlaw13_NormalScales.bits9 : waitsOk shapesearchlaw13_NormalScales.T9.2 shapesearchlaw13_NormalScales.B9 = true := by kernel_rfl
set_option maxHeartbeats 8000000 in
set_option maxRecDepth 100000 in
theorem shapesearchlaw13_NormalScales.calls (k : Nat) (A0 : Option Addr) (c0 : Nat) (l0 : List Int) (a1 : Int) (a2 : Int) (r : Bool) (w : World) (hr0 : Kd.C (Kd.int .i64) w A0 l0.length l0) (hc0 : l0.length ≤ c0) (h : shapesearchlaw13_NormalScales.f k l0 a1 a2 = some r) :
    Calls Try.prog 3 #[.slice A0 l0.length c0, .int .u8 a1, .int .i8 a2] w fun e w' => e = .returned (.bool r) ∧ Below w.heap.size w w' := by
  have hu29 := Try.underlying29
  have HR0 := Aside0.mk hr0
  have HC0 := Aside0.mk hc0
  clear hr0 hc0
  have HB := Aside0.mk (Below.refl w.heap.size w)
  have H : ((shapesearchkeep_New.f l0).bind fun bt297 => ((shapesearchkeep_Src_Pair.f k bt297.1 bt297.2).bind fun bt300 => (shapesearchlaw13_NormalScales.l0 k a2 bt300.1 bt300.2.1 (wrap64 (1 + (Int.tmod (wrap64 (a1)) 4))) ([] : List Int) ([] : List Int) (bt300.1.length : Int) 0))) = some r := h
  clear h
  replace H := Option.bind_eq_some_iff.mp H
  obtain ⟨⟨t297, t298⟩, A40, H⟩ := H
  replace H : ((shapesearchkeep_Src_Pair.f k t297 t298).bind fun bt300 => (shapesearchlaw13_NormalScales.l0 k a2 bt300.1 bt300.2.1 (wrap64 (1 + (Int.tmod (wrap64 (a1)) 4))) ([] : List Int) ([] : List Int) (bt300.1.length : Int) 0)) = some r := H
  have A4 := Aside0.mk A40
  clear A40
  replace H := Option.bind_eq_some_iff.mp H
  obtain ⟨⟨t300, t303, t306⟩, A50, H⟩ := H
  replace H : (shapesearchlaw13_NormalScales.l0 k a2 t300 t303 (wrap64 (1 + (Int.tmod (wrap64 (a1)) 4))) ([] : List Int) ([] : List Int) (t300.length : Int) 0) = some r := H
  have A5 := Aside0.mk A50
  clear A50
  have H' := Aside0.mk H
  clear H
  go_enter Try.func3, Try.ntmps3
  go_wp2_with (first | ((with_reducible refine gate_callee (f := 9) rfl ?_); refine goesL_ (some 24) rfl rfl Try.func9 (by kernel_rfl) rfl #[.slice A0 l0.length c0] rfl (by (try simp only [List.map_toArray, List.map_cons, List.map_nil]); first | done | rfl | (simp only [List.length_drop, List.length_take]; rfl)) ?_; (with_reducible refine (shapesearchkeep_New.calls _ _ l0 t297 t298 w _ ?side1 ?side2 ?side3 A4.out).mono ?_); (case side1 => repeat (first | (with_reducible first | exact HB.out | apply below_alloc | apply pw_below_drewN | apply below_drew1) | exact HB.out)); (case side2 => exact HR0.out); (case side3 => exact HC0.out); rintro e w6 ⟨g299, rfl, hi, hb, hb2⟩; refine ⟨_, rfl, ?_⟩; have n0_ := Aside0.mk (hb); have n1_ := Aside0.mk (hi); clear HB; have HB := n0_; have HI299 := n1_; clear n0_ n1_; (try clear hb); (try clear hb2); (try clear hk); (try clear hi)) | ((with_reducible refine gate_callee (f := 10) rfl ?_); refine goesL_ (some 27) rfl rfl Try.func10 (by kernel_rfl) rfl #[.pointer (some ⟨g299, 0, none⟩)] rfl (by (try simp only [List.map_toArray, List.map_cons, List.map_nil]); first | done | rfl | (simp only [List.length_drop, List.length_take]; rfl)) ?_; (with_reducible refine (shapesearchkeep_Src_Pair.calls k g299 t297 t298 t300 t303 t306 w _ ?side1 ?side2 A5.out).mono ?_); (case side1 => repeat (first | (with_reducible first | exact HI299.out | apply IsS58.alloc | apply IsS58.drewN | apply IsS58.drew | apply IsS58.set_1) | exact HI299.out)); (case side2 => repeat (first | (with_reducible first | exact HB.out | apply below_alloc | apply pw_below_drewN | apply below_drew1 | refine below_set ?_ (IsS58.ge HI299.out)) | exact HB.out)); rintro e w7 ⟨v301, v304, rfl, ho0, ho1, hi, hb, hk⟩; refine ⟨_, rfl, ?_⟩; have n0_ := Aside0.mk (Kd.R_lower ho0 (below_size (by repeat (first | (with_reducible first | exact HB.out | apply below_alloc | apply pw_below_drewN | apply below_drew1 | refine below_set ?_ (IsS58.ge HI299.out)) | exact HB.out)))); have n1_ := Aside0.mk (Kd.R_lower ho1 (below_size (by repeat (first | (with_reducible first | exact HB.out | apply below_alloc | apply pw_below_drewN | apply below_drew1 | refine below_set ?_ (IsS58.ge HI299.out)) | exact HB.out)))); have n2_ := Aside0.mk (hb); have n3_ := Aside0.mk (hi); clear HB; clear HI299; have HO302 := n0_; have HO305 := n1_; have HB := n2_; have HI299 := n3_; clear n0_ n1_ n2_ n3_; (try clear hb); (try clear hb2); (try clear hk); (try clear hi); (try clear ho0); (try clear ho1); obtain ⟨Ao8, co8, eo8⟩ := Kd.R_slice HO302.out; subst eo8))
  go_loopg [11, 12, 36] k (fun kq v11 v12 v36 w' => ∃ (x8_1 : List Int) (x9_1 : List Int) (x11_1 : List Int) (x12_1 : List Int) (x36_1 : Int), v36 = .int .i64 x36_1 ∧ Aside0 (shapesearchlaw13_NormalScales.l0 kq a2 x8_1 x9_1 (wrap64 (1 + (Int.tmod (wrap64 (a1)) 4))) x11_1 x12_1 (t300.length : Int) x36_1 = some r) ∧ Aside0 (kq ≤ k) ∧ Aside0 (Kd.R (Kd.int .i64) 3 w' w.heap.size (fun k_ => some k_ ≠ (v304 : Value).ownBlock ∧ some k_ ≠ (v11 : Value).ownBlock ∧ some k_ ≠ (v12 : Value).ownBlock) (.slice Ao8 t300.length co8) x8_1) ∧ Aside0 (Kd.R (Kd.int .i64) 3 w' w.heap.size (fun k_ => some k_ ≠ ((.slice Ao8 t300.length co8) : Value).ownBlock ∧ some k_ ≠ (v11 : Value).ownBlock ∧ some k_ ≠ (v12 : Value).ownBlock) v304 x9_1) ∧ Aside0 (Kd.R (Kd.int .i64) 3 w' w.heap.size (fun k_ => some k_ ≠ ((.slice Ao8 t300.length co8) : Value).ownBlock ∧ some k_ ≠ (v304 : Value).ownBlock ∧ some k_ ≠ (v12 : Value).ownBlock) v11 x11_1) ∧ Aside0 (Kd.R (Kd.int .i64) 3 w' w.heap.size (fun k_ => some k_ ≠ ((.slice Ao8 t300.length co8) : Value).ownBlock ∧ some k_ ≠ (v304 : Value).ownBlock ∧ some k_ ≠ (v11 : Value).ownBlock) v12 x12_1) ∧ Aside0 (Below w.heap.size w w'))
  case atStart => exact ⟨(t300), (t303), (([] : List Int)), (([] : List Int)), (0), (by first | rfl | (simp; done) | (simp [*]; done)), H', ⟨Nat.le_refl _⟩, ⟨by (with_reducible repeat (first | apply Kd.R_alloc | apply Kd.R_drewN | apply Kd.R_drew)); exact Kd.R_mono HO302.out (fun _ hk => ⟨hk, ⟨(by simp [Value.ownBlock]), (by simp [Value.ownBlock])⟩⟩)⟩, ⟨by (with_reducible repeat (first | apply Kd.R_alloc | apply Kd.R_drewN | apply Kd.R_drew)); exact Kd.R_mono HO305.out (fun _ hk => ⟨hk, ⟨(by simp [Value.ownBlock]), (by simp [Value.ownBlock])⟩⟩)⟩, ⟨by first | exact Kd.R_nil _ _ _ _ _ | exact Kd.N_nil _ _ _ _ _ | exact Kd.V_nil _ _ _ _ _ | exact Kd.Q_nil _ _ _ _ _ | exact Kd.S_nil _ _ _ _ _⟩, ⟨by first | exact Kd.R_nil _ _ _ _ _ | exact Kd.N_nil _ _ _ _ _ | exact Kd.V_nil _ _ _ _ _ | exact Kd.Q_nil _ _ _ _ _ | exact Kd.S_nil _ _ _ _ _⟩, ⟨by repeat (first | (with_reducible first | exact HB.out | apply below_alloc | apply pw_below_drewN | apply below_drew1 | refine below_set ?_ (IsS58.ge HI299.out)) | exact HB.out)⟩⟩
  case round =>
    clear H'
    try clear c1
    try clear p2
    try clear c3
    try clear p6
    obtain ⟨x8_1, x9_1, x11_1, x12_1, x36_1, rfl, HA, HK1, HO_8, HO_9, HO_11, HO_12, HB⟩ := hrel
    have hl8_1 := (Kd.R_reads' HO_8.out).1
    rw [hl8_1] at HO_8
    (try simp only [hl8_1])
    (try simp only [hl8_1] at HO_9)
    (try simp only [hl8_1] at HO_11)
    (try simp only [hl8_1] at HO_12)
    cases gk with
    | zero => exact absurd HA.out (by simp [shapesearchlaw13_NormalScales.l0])
    | succ k1 =>
      have H := HA.out
      clear HA
      simp only [shapesearchlaw13_NormalScales.l0] at H
      by_cases c9 : x36_1 < (t300.length : Int)
      · rw [if_pos c9] at H
        have c9b0 : decide (x36_1 < (t300.length : Int)) = true := decide_eq_true c9
        (try (have c9b0h := c9b0; simp only [hl8_1] at c9b0h))
        clear c9
        by_cases c10 : 0 ≤ x36_1
        · rw [if_pos c10] at H
          have c10b0 : decide (0 ≤ x36_1) = true := decide_eq_true c10
          clear c10
          by_cases c11 : x36_1 < (x8_1.length : Int)
          · rw [if_pos c11] at H
            have c11b0 : decide (x36_1 < (x8_1.length : Int)) = true := decide_eq_true c11
            (try (have c11b0h := c11b0; simp only [hl8_1] at c11b0h))
            clear c11
            by_cases c12 : x36_1 < (x9_1.length : Int)
            · rw [if_pos c12] at H
              have c12b0 : decide (x36_1 < (x9_1.length : Int)) = true := decide_eq_true c12
              (try (have c12b0h := c12b0; simp only [hl8_1] at c12b0h))
              clear c12
              obtain ⟨y309, hy309⟩ : ∃ y_ : List Int, y_ = (x8_1.set (x36_1 : Int).toNat (wrap64 (Int.tdiv (rd x8_1 x36_1) 5))) := ⟨_, rfl⟩
              replace H : ((some (([wrap64 ((wrap64 ((rd y309 x36_1) * (wrap64 (1 + (Int.tmod (wrap64 (a1)) 4))))) + (wrap64 (a2)))] : List Int) : List Int)).bind fun y312 => (if x11_1.length + y312.length < 17592186044416 then ((some (([wrap64 ((wrap64 (a2)) - (wrap64 ((rd y309 x36_1) * (wrap64 (1 + (Int.tmod (wrap64 (a1)) 4))))))] : List Int) : List Int)).bind fun y319 => (if x12_1.length + y319.length < 17592186044416 then (shapesearchlaw13_NormalScales.l0 k1 a2 y309 (x9_1.set (x36_1 : Int).toNat (wrap64 (Int.tdiv (rd x9_1 x36_1) 5))) (wrap64 (1 + (Int.tmod (wrap64 (a1)) 4))) (x11_1 ++ y312) (x12_1 ++ y319) (t300.length : Int) (wrap64 (x36_1 + 1))) else (none))) else (none))) = some r := by first | (rw [hy309]; with_reducible exact H) | (have H2_ := (Option.bind_some _ _).symm.trans H; rw [hy309]; with_reducible exact H2_) | (have H2_ := (Option.bind_some _ _).symm.trans H; with_reducible exact H2_) | with_reducible exact H | (rw [hy309]; exact H) | exact H
              have Ny309 := Aside0.mk hy309
              clear hy309
              obtain ⟨y310, hy310⟩ : ∃ y_ : List Int, y_ = (x9_1.set (x36_1 : Int).toNat (wrap64 (Int.tdiv (rd x9_1 x36_1) 5))) := ⟨_, rfl⟩
              replace H : ((some (([wrap64 ((wrap64 ((rd y309 x36_1) * (wrap64 (1 + (Int.tmod (wrap64 (a1)) 4))))) + (wrap64 (a2)))] : List Int) : List Int)).bind fun y312 => (if x11_1.length + y312.length < 17592186044416 then ((some (([wrap64 ((wrap64 (a2)) - (wrap64 ((rd y309 x36_1) * (wrap64 (1 + (Int.tmod (wrap64 (a1)) 4))))))] : List Int) : List Int)).bind fun y319 => (if x12_1.length + y319.length < 17592186044416 then (shapesearchlaw13_NormalScales.l0 k1 a2 y309 y310 (wrap64 (1 + (Int.tmod (wrap64 (a1)) 4))) (x11_1 ++ y312) (x12_1 ++ y319) (t300.length : Int) (wrap64 (x36_1 + 1))) else (none))) else (none))) = some r := by first | (rw [hy310]; with_reducible exact H) | (have H2_ := (Option.bind_some _ _).symm.trans H; rw [hy310]; with_reducible exact H2_) | (have H2_ := (Option.bind_some _ _).symm.trans H; with_reducible exact H2_) | with_reducible exact H | (rw [hy310]; exact H) | exact H
              have Ny310 := Aside0.mk hy310
              clear hy310
              obtain ⟨y312, hy312⟩ : ∃ y_ : List Int, y_ = (([wrap64 ((wrap64 ((rd y309 x36_1) * (wrap64 (1 + (Int.tmod (wrap64 (a1)) 4))))) + (wrap64 (a2)))] : List Int)) := ⟨_, rfl⟩
              replace H : (if x11_1.length + y312.length < 17592186044416 then ((some (([wrap64 ((wrap64 (a2)) - (wrap64 ((rd y309 x36_1) * (wrap64 (1 + (Int.tmod (wrap64 (a1)) 4))))))] : List Int) : List Int)).bind fun y319 => (if x12_1.length + y319.length < 17592186044416 then (shapesearchlaw13_NormalScales.l0 k1 a2 y309 y310 (wrap64 (1 + (Int.tmod (wrap64 (a1)) 4))) (x11_1 ++ y312) (x12_1 ++ y319) (t300.length : Int) (wrap64 (x36_1 + 1))) else (none))) else (none)) = some r := by first | (rw [hy312]; with_reducible exact H) | (have H2_ := (Option.bind_some _ _).symm.trans H; rw [hy312]; with_reducible exact H2_) | (have H2_ := (Option.bind_some _ _).symm.trans H; with_reducible exact H2_) | with_reducible exact H | (rw [hy312]; exact H) | exact H
              have Ny312 := Aside0.mk hy312
              clear hy312
              by_cases c15 : x11_1.length + y312.length < 17592186044416
              · rw [if_pos c15] at H
                have LMc15 := Aside0.mk c15
                clear c15
                obtain ⟨y315, hy315⟩ : ∃ y_ : List Int, y_ = (x11_1 ++ y312) := ⟨_, rfl⟩
                replace H : ((some (([wrap64 ((wrap64 (a2)) - (wrap64 ((rd y309 x36_1) * (wrap64 (1 + (Int.tmod (wrap64 (a1)) 4))))))] : List Int) : List Int)).bind fun y319 => (if x12_1.length + y319.length < 17592186044416 then (shapesearchlaw13_NormalScales.l0 k1 a2 y309 y310 (wrap64 (1 + (Int.tmod (wrap64 (a1)) 4))) y315 (x12_1 ++ y319) (t300.length : Int) (wrap64 (x36_1 + 1))) else (none))) = some r := by first | (rw [hy315]; with_reducible exact H) | (have H2_ := (Option.bind_some _ _).symm.trans H; rw [hy315]; with_reducible exact H2_) | (have H2_ := (Option.bind_some _ _).symm.trans H; with_reducible exact H2_) | with_reducible exact H | (rw [hy315]; exact H) | exact H
                have Ny315 := Aside0.mk hy315
                clear hy315
                obtain ⟨y319, hy319⟩ : ∃ y_ : List Int, y_ = (([wrap64 ((wrap64 (a2)) - (wrap64 ((rd y309 x36_1) * (wrap64 (1 + (Int.tmod (wrap64 (a1)) 4))))))] : List Int)) := ⟨_, rfl⟩
                replace H : (if x12_1.length + y319.length < 17592186044416 then (shapesearchlaw13_NormalScales.l0 k1 a2 y309 y310 (wrap64 (1 + (Int.tmod (wrap64 (a1)) 4))) y315 (x12_1 ++ y319) (t300.length : Int) (wrap64 (x36_1 + 1))) else (none)) = some r := by first | (rw [hy319]; with_reducible exact H) | (have H2_ := (Option.bind_some _ _).symm.trans H; rw [hy319]; with_reducible exact H2_) | (have H2_ := (Option.bind_some _ _).symm.trans H; with_reducible exact H2_) | with_reducible exact H | (rw [hy319]; exact H) | exact H
                have Ny319 := Aside0.mk hy319
                clear hy319
                by_cases c16 : x12_1.length + y319.length < 17592186044416
                · rw [if_pos c16] at H
                  have LMc16 := Aside0.mk c16
                  clear c16
                  obtain ⟨y322, hy322⟩ : ∃ y_ : List Int, y_ = (x12_1 ++ y319) := ⟨_, rfl⟩
                  replace H : (shapesearchlaw13_NormalScales.l0 k1 a2 y309 y310 (wrap64 (1 + (Int.tmod (wrap64 (a1)) 4))) y315 y322 (t300.length : Int) (wrap64 (x36_1 + 1))) = some r := by first | (rw [hy322]; with_reducible exact H) | (have H2_ := (Option.bind_some _ _).symm.trans H; rw [hy322]; with_reducible exact H2_) | (have H2_ := (Option.bind_some _ _).symm.trans H; with_reducible exact H2_) | with_reducible exact H | (rw [hy322]; exact H) | exact H
                  have Ny322 := Aside0.mk hy322
                  clear hy322
                  have H' := Aside0.mk H
                  clear H
                  try go_wp2
                  have n0_ := Aside0.mk (Kd.R_drew HO_8.out)
                  have n1_ := Aside0.mk (Kd.R_drew HO_9.out)
                  have n2_ := Aside0.mk (Kd.R_drew HO_11.out)
                  have n3_ := Aside0.mk (Kd.R_drew HO_12.out)
                  have n4_ := Aside0.mk (below_drew1 HB.out)
                  clear HO_8
                  clear HO_9
                  clear HO_11
                  clear HO_12
                  clear HB
                  have HO_8 := n0_
                  have HO_9 := n1_
                  have HO_11 := n2_
                  have HO_12 := n3_
                  have HB := n4_
                  clear n0_ n1_ n2_ n3_ n4_
                  have p307 : 0 ≤ (x36_1 : Int) := of_decide_eq_true (by first | (with_reducible assumption) | assumption)
                  have q307 : x36_1 < (x8_1.length : Int) := of_decide_eq_true (by first | (with_reducible assumption) | assumption)
                  obtain ⟨ad307, e307, hx307_0⟩ := Kd.at_int (Kd.R_reads' HO_8.out).2.2 x36_1 p307 q307
                  cases e307
                  replace p307 := eq_true p307
                  replace q307 := eq_true q307
                  obtain ⟨Ao18, co18, eo18⟩ := Kd.R_slice HO_9.out
                  (first | subst eo18 | (injection eo18 with f1_ f2_ f3_; have f4_ := f1_.symm; have f5_ := f3_.symm; clear f1_ f2_ f3_; subst f4_; subst f5_))
                  have p308 : 0 ≤ (x36_1 : Int) := of_decide_eq_true (by first | (with_reducible assumption) | assumption)
                  have q308 : x36_1 < (x9_1.length : Int) := of_decide_eq_true (by first | (with_reducible assumption) | assumption)
                  obtain ⟨ad308, e308, hx308_0⟩ := Kd.at_int (Kd.R_reads' HO_9.out).2.2 x36_1 p308 q308
                  cases e308
                  replace p308 := eq_true p308
                  replace q308 := eq_true q308
                  have p13 : 0 ≤ (x36_1 : Int) := of_decide_eq_true (by first | (with_reducible assumption) | assumption)
                  have q13 : (x36_1 : Int) < ((x8_1.length : Int) : Int) := of_decide_eq_true (by first | (with_reducible assumption) | assumption)
                  obtain ⟨go13, co13, eo13, gb13, gl13, cl13, HG13⟩ := Kd.R_form HO_8.out (by omega)
                  (first | cases eo13 | (injection eo13 with ea_ en_ ec_; (first | subst ea_ | (injection ea_ with ea_; subst ea_)); subst ec_; clear en_))
                  have GB13 := Aside0.mk gb13
                  have GG13 := Aside0.mk HG13
                  clear gb13 gl13 HG13
                  (first | simp only [add_plain] at hx307_0 | skip)
                  obtain ⟨hx13_0, hf13_0⟩ := Kd.R_celln 0 HO_8.out (x36_1 : Int) p13 q13
                  replace p13 := eq_true p13
                  replace q13 := eq_true q13
                  have HP19 := Kd.R_putn HO_8.out (x36_1 : Int) (wrap64 (Int.tdiv (rd x8_1 x36_1) 5))
                  rw [← Ny309.out] at HP19
                  have HQ19 := Aside0.mk HP19
                  clear HP19
                  have p14 : 0 ≤ (x36_1 : Int) := of_decide_eq_true (by first | (with_reducible assumption) | assumption)
                  have q14 : (x36_1 : Int) < ((x9_1.length : Int) : Int) := of_decide_eq_true (by first | (with_reducible assumption) | assumption)
                  obtain ⟨go14, co14, eo14, gb14, gl14, cl14, HG14⟩ := Kd.R_form HO_9.out (by omega)
                  (first | cases eo14 | (injection eo14 with ea_ en_ ec_; (first | subst ea_ | (injection ea_ with ea_; subst ea_)); subst ec_; clear en_))
                  have GB14 := Aside0.mk gb14
                  have GG14 := Aside0.mk HG14
                  clear gb14 gl14 HG14
                  (first | simp only [add_plain] at hx308_0 | skip)
                  obtain ⟨hx14_0, hf14_0⟩ := Kd.R_celln 0 (Kd.R_far (p := ⟨go13, (x36_1 : Int).toNat, none⟩) (Kd.R_mono HO_9.out (fun k_ hk => (⟨hk, fun e_ => hk.1 (by rw [e_]; rfl)⟩ : _ ∧ k_ ≠ go13))) (fun _ hk => hk.2) (.int .i64 (wrap64 (Int.tdiv (rd x8_1 x36_1) 5)))) (x36_1 : Int) p14 q14
                  replace p14 := eq_true p14
                  replace q14 := eq_true q14
                  have HP20 := Kd.R_putn (Kd.R_far (p := ⟨go13, (x36_1 : Int).toNat, none⟩) (Kd.R_mono HO_9.out (fun k_ hk => (⟨hk, fun e_ => hk.1 (by rw [e_]; rfl)⟩ : _ ∧ k_ ≠ go13))) (fun _ hk => hk.2) (.int .i64 (wrap64 (Int.tdiv (rd x8_1 x36_1) 5)))) (x36_1 : Int) (wrap64 (Int.tdiv (rd x9_1 x36_1) 5))
                  rw [← Ny310.out] at HP20
                  have HQ20 := Aside0.mk HP20
                  clear HP20
                  refine start_ (n := 18) (S := fun w' => w'.cell? ⟨go13, (x36_1).toNat, none⟩ = some (.int .i64 (rd x8_1 x36_1)) ∧ w'.cell? ⟨go14, (x36_1).toNat, none⟩ = some (.int .i64 (rd x9_1 x36_1))) (ds := [15, 17]) #[false, false, false, false, false, false, false, false, false, false, false, false, false, false, false, false, false, false] (by kernel_rfl) rfl rfl ⟨hx307_0, hx308_0⟩ (fun hHeld => ?_); refine with_tabW shapesearchlaw13_NormalScales.tab8 shapesearchlaw13_NormalScales.bits8 (fun HT_ HW_ => ?_)
                  generalize wr.drew = w17 at HO_8 HO_9 HO_11 HO_12 HB GG13 GG14 HQ19 HQ20 hf13_0 hf14_0 hx13_0 hx14_0 hx307_0 hx308_0 hHeld ⊢
                  refine pure_ (i := 0) (N := some 39) (v := ?_) (a' := ?_) #[true, false, false, false, false, false, false, false, false, false, false, false, false, false, false, false, false, false] rfl rfl (any_of HT_.out (by kernel_rfl)) (fun _ _ _ h => h) (Or.inl ⟨by rfl, ?_⟩) ?_ ?_
                  rotate_left
                  · intro w'
                    go_simp
                    with_reducible rfl
                  rotate_left
                  · simp only [Act.put, List.setIfInBounds_toArray, List.set_cons_zero, List.set_cons_succ, i64_w, i32_w]
                    rfl
                  refine pure_ (i := 1) (N := some 40) (v := ?_) (a' := ?_) #[true, true, false, false, false, false, false, false, false, false, false, false, false, false, false, false, false, false] rfl rfl (any_of HT_.out (by kernel_rfl)) (fun _ _ _ h => h) (Or.inl ⟨by rfl, ?_⟩) ?_ ?_
                  rotate_left
                  · intro w'
                    go_simp
                    with_reducible rfl
                  rotate_left
                  · simp only [Act.put, List.setIfInBounds_toArray, List.set_cons_zero, List.set_cons_succ, i64_w, i32_w]
                    rfl
                  refine pure_ (i := 2) (N := some 41) (v := ?_) (a' := ?_) #[true, true, true, false, false, false, false, false, false, false, false, false, false, false, false, false, false, false] rfl rfl (any_of HT_.out (by kernel_rfl)) (fun _ _ _ h => h) (Or.inl ⟨by rfl, ?_⟩) ?_ ?_
                  rotate_left
                  · intro w'
                    go_simp
                    with_reducible rfl
                  rotate_left
                  · simp only [Act.put, List.setIfInBounds_toArray, List.set_cons_zero, List.set_cons_succ, i64_w, i32_w]
                    rfl
                  refine pure_ (i := 3) (N := some 42) (v := ?_) (a' := ?_) #[true, true, true, true, false, false, false, false, false, false, false, false, false, false, false, false, false, false] rfl rfl (any_of HT_.out (by kernel_rfl)) (fun _ _ _ h => h) (Or.inl ⟨by rfl, ?_⟩) ?_ ?_
                  rotate_left
                  · intro w'
                    go_simp
                    with_reducible rfl
                  rotate_left
                  · simp only [Act.put, List.setIfInBounds_toArray, List.set_cons_zero, List.set_cons_succ, i64_w, i32_w]
                    rfl
                  refine pure_ (i := 4) (N := some 43) (v := ?_) (a' := ?_) #[true, true, true, true, true, false, false, false, false, false, false, false, false, false, false, false, false, false] rfl rfl (any_of HT_.out (by kernel_rfl)) (fun _ _ _ h => h) (Or.inl ⟨by rfl, ?_⟩) ?_ ?_
                  rotate_left
                  · intro w'
                    go_simp
                    with_reducible rfl
                  rotate_left
                  · simp only [Act.put, List.setIfInBounds_toArray, List.set_cons_zero, List.set_cons_succ, i64_w, i32_w]
                    rfl
                  refine pure_ (i := 5) (N := some 44) (v := ?_) (a' := ?_) #[true, true, true, true, true, true, false, false, false, false, false, false, false, false, false, false, false, false] rfl rfl (any_of HT_.out (by kernel_rfl)) (fun _ _ _ h => h) (Or.inl ⟨by rfl, ?_⟩) ?_ ?_
                  rotate_left
                  · intro w'
                    go_simp
                    with_reducible rfl
                  rotate_left
                  · simp only [Act.put, List.setIfInBounds_toArray, List.set_cons_zero, List.set_cons_succ, i64_w, i32_w]
                    rfl
                  refine pure_ (i := 6) (N := some 45) (v := ?_) (a' := ?_) #[true, true, true, true, true, true, true, false, false, false, false, false, false, false, false, false, false, false] rfl rfl (any_of HT_.out (by kernel_rfl)) (fun _ _ _ h => h) (Or.inl ⟨by rfl, ?_⟩) ?_ ?_
                  rotate_left
                  · intro w'
                    go_simp
                    with_reducible rfl
                  rotate_left
                  · simp only [Act.put, List.setIfInBounds_toArray, List.set_cons_zero, List.set_cons_succ, i64_w, i32_w]
                    rfl
                  refine pure_ (i := 9) (N := some 48) (v := ?_) (a' := ?_) #[true, true, true, true, true, true, true, false, false, true, false, false, false, false, false, false, false, false] rfl rfl (any_of HT_.out (by kernel_rfl)) (fun _ _ _ h => h) (Or.inl ⟨by rfl, ?_⟩) ?_ ?_
                  rotate_left
                  · intro w'
                    go_simp
                    with_reducible rfl
                  rotate_left
                  · simp only [Act.put, List.setIfInBounds_toArray, List.set_cons_zero, List.set_cons_succ, i64_w, i32_w]
                    rfl
                  refine pure_ (i := 10) (N := some 49) (v := ?_) (a' := ?_) #[true, true, true, true, true, true, true, false, false, true, true, false, false, false, false, false, false, false] rfl rfl (any_of HT_.out (by kernel_rfl)) (fun _ _ _ h => h) (Or.inl ⟨by rfl, ?_⟩) ?_ ?_
                  rotate_left
                  · intro w'
                    go_simp
                    with_reducible rfl
                  rotate_left
                  · simp only [Act.put, List.setIfInBounds_toArray, List.set_cons_zero, List.set_cons_succ, i64_w, i32_w]
                    rfl
                  refine pure_ (i := 11) (N := some 50) (v := ?_) (a' := ?_) #[true, true, true, true, true, true, true, false, false, true, true, true, false, false, false, false, false, false] rfl rfl (any_of HT_.out (by kernel_rfl)) (fun _ _ _ h => h) (Or.inl ⟨by rfl, ?_⟩) ?_ ?_
                  rotate_left
                  · intro w'
                    go_simp
                    with_reducible rfl
                  rotate_left
                  · simp only [Act.put, List.setIfInBounds_toArray, List.set_cons_zero, List.set_cons_succ, i64_w, i32_w]
                    rfl
                  refine take_ (i := 7) (N := some 46) (v := ?_) (a' := ?_) #[true, true, true, true, true, true, true, true, false, true, true, true, false, false, false, false, false, false] rfl rfl (take_ofW HT_.out HW_.out (by kernel_rfl)) (fun _ _ _ h => h) (Or.inl ⟨by rfl, ?_⟩) hHeld ?_ ?_
                  rotate_left
                  · rintro w' ⟨s0, s1⟩
                    go_simp
                    with_reducible rfl
                  rotate_left
                  · simp only [Act.put, List.setIfInBounds_toArray, List.set_cons_zero, List.set_cons_succ, i64_w, i32_w]
                    rfl
                  refine pure_ (i := 8) (N := some 47) (v := ?_) (a' := ?_) #[true, true, true, true, true, true, true, true, true, true, true, true, false, false, false, false, false, false] rfl rfl (any_of HT_.out (by kernel_rfl)) (fun _ _ _ h => h) (Or.inl ⟨by rfl, ?_⟩) ?_ ?_
                  rotate_left
                  · intro w'
                    go_simp
                    with_reducible rfl
                  rotate_left
                  · simp only [Act.put, List.setIfInBounds_toArray, List.set_cons_zero, List.set_cons_succ, i64_w, i32_w]
                    rfl
                  refine take_ (i := 12) (N := some 51) (v := ?_) (a' := ?_) #[true, true, true, true, true, true, true, true, true, true, true, true, true, false, false, false, false, false] rfl rfl (take_ofW HT_.out HW_.out (by kernel_rfl)) (fun _ _ _ h => h) (Or.inl ⟨by rfl, ?_⟩) hHeld ?_ ?_
                  rotate_left
                  · rintro w' ⟨s0, s1⟩
                    go_simp
                    with_reducible rfl
                  rotate_left
                  · simp only [Act.put, List.setIfInBounds_toArray, List.set_cons_zero, List.set_cons_succ, i64_w, i32_w]
                    rfl
                  refine pure_ (i := 13) (N := some 52) (v := ?_) (a' := ?_) #[true, true, true, true, true, true, true, true, true, true, true, true, true, true, false, false, false, false] rfl rfl (any_of HT_.out (by kernel_rfl)) (fun _ _ _ h => h) (Or.inl ⟨by rfl, ?_⟩) ?_ ?_
                  rotate_left
                  · intro w'
                    go_simp
                    with_reducible rfl
                  rotate_left
                  · simp only [Act.put, List.setIfInBounds_toArray, List.set_cons_zero, List.set_cons_succ, i64_w, i32_w]
                    rfl
                  refine pure_ (i := 14) (N := some 53) (v := ?_) (a' := ?_) #[true, true, true, true, true, true, true, true, true, true, true, true, true, true, true, false, false, false] rfl rfl (any_of HT_.out (by kernel_rfl)) (fun _ _ _ h => h) (Or.inl ⟨by rfl, ?_⟩) ?_ ?_
                  rotate_left
                  · intro w'
                    go_simp
                    with_reducible rfl
                  rotate_left
                  · simp only [Act.put, List.setIfInBounds_toArray, List.set_cons_zero, List.set_cons_succ, i64_w, i32_w]
                    rfl
                  refine last_ (i := 15) (N := none) #[true, true, true, true, true, true, true, true, true, true, true, true, true, true, true, true, false, false] rfl rfl (one_of HT_.out (by kernel_rfl)) (by decide) (fun K hK => ?_)
                  refine skip_ (w1 := ?_) (by rfl) rfl ?_ ?_
                  rotate_left
                  · go_simp
                    rfl
                  refine hK.out _ _ ?_
                  clear hK K
                  refine pure_ (i := 16) (N := some 54) (v := ?_) (a' := ?_) #[true, true, true, true, true, true, true, true, true, true, true, true, true, true, true, true, true, false] rfl rfl (any_of HT_.out (by kernel_rfl)) (fun _ _ _ h => h) (Or.inl ⟨by rfl, ?_⟩) ?_ ?_
                  rotate_left
                  · intro w'
                    go_simp
                    with_reducible rfl
                  rotate_left
                  · simp only [Act.put, List.setIfInBounds_toArray, List.set_cons_zero, List.set_cons_succ, i64_w, i32_w]
                    rfl
                  refine last_ (i := 17) (N := none) #[true, true, true, true, true, true, true, true, true, true, true, true, true, true, true, true, true, true] rfl rfl (one_of HT_.out (by kernel_rfl)) (by decide) (fun K hK => ?_)
                  refine skip_ (w1 := ?_) (by rfl) rfl ?_ ?_
                  rotate_left
                  · go_simp
                    rfl
                  refine hK.out _ _ ?_
                  clear hK K
                  refine done_ (done_of HT_.out (by kernel_rfl)) ?_
                  obtain ⟨Ao21, co21, eo21⟩ := Kd.R_slice HO_11.out
                  subst eo21
                  obtain ⟨Ao22, co22, eo22⟩ := Kd.R_slice HO_12.out
                  subst eo22
                  try go_wp2
                  have n0_ : Aside0 (Kd.R (Kd.int .i64) 3 ((w17.setCell ⟨go13, (x36_1 : Int).toNat, none⟩ (.int .i64 (wrap64 (Int.tdiv (rd x8_1 x36_1) 5)))).setCell ⟨go14, (x36_1 : Int).toNat, none⟩ (.int .i64 (wrap64 (Int.tdiv (rd x9_1 x36_1) 5)))) w.heap.size (fun k_ => some k_ ≠ (.slice (some ⟨go14, 0, none⟩) x9_1.length co18 : Value).ownBlock ∧ some k_ ≠ (.slice Ao21 x11_1.length co21 : Value).ownBlock ∧ some k_ ≠ (.slice Ao22 x12_1.length co22 : Value).ownBlock) (.slice (some ⟨go13, 0, none⟩) x8_1.length co8) y309) := ⟨by (with_reducible repeat (first | apply Kd.R_alloc | apply Kd.R_drewN | apply Kd.R_drew)); exact Kd.R_mono (Kd.R_far (p := ⟨go14, (x36_1 : Int).toNat, none⟩) (Kd.R_mono HQ19.out (fun k_ hk => (⟨hk, fun e_ => hk.1 (by rw [e_]; rfl)⟩ : _ ∧ k_ ≠ go14))) (fun _ hk => hk.2) (.int .i64 (wrap64 (Int.tdiv (rd x9_1 x36_1) 5)))) (fun _ hk => ⟨hk.1.1, ⟨hk.1.2.1, hk.1.2.2⟩⟩)⟩
                  have n1_ : Aside0 (Kd.R (Kd.int .i64) 3 ((w17.setCell ⟨go13, (x36_1 : Int).toNat, none⟩ (.int .i64 (wrap64 (Int.tdiv (rd x8_1 x36_1) 5)))).setCell ⟨go14, (x36_1 : Int).toNat, none⟩ (.int .i64 (wrap64 (Int.tdiv (rd x9_1 x36_1) 5)))) w.heap.size (fun k_ => some k_ ≠ (.slice (some ⟨go13, 0, none⟩) x8_1.length co8 : Value).ownBlock ∧ some k_ ≠ (.slice Ao21 x11_1.length co21 : Value).ownBlock ∧ some k_ ≠ (.slice Ao22 x12_1.length co22 : Value).ownBlock) (.slice (some ⟨go14, 0, none⟩) x9_1.length co18) y310) := ⟨by (with_reducible repeat (first | apply Kd.R_alloc | apply Kd.R_drewN | apply Kd.R_drew)); exact Kd.R_mono HQ20.out (fun _ hk => ⟨hk.1.1, ⟨hk.1.2.1, hk.1.2.2⟩⟩)⟩
                  have n2_ : Aside0 (Kd.R (Kd.int .i64) 3 ((w17.setCell ⟨go13, (x36_1 : Int).toNat, none⟩ (.int .i64 (wrap64 (Int.tdiv (rd x8_1 x36_1) 5)))).setCell ⟨go14, (x36_1 : Int).toNat, none⟩ (.int .i64 (wrap64 (Int.tdiv (rd x9_1 x36_1) 5)))) w.heap.size (fun k_ => some k_ ≠ (.slice (some ⟨go13, 0, none⟩) x8_1.length co8 : Value).ownBlock ∧ some k_ ≠ (.slice (some ⟨go14, 0, none⟩) x9_1.length co18 : Value).ownBlock ∧ some k_ ≠ (.slice Ao22 x12_1.length co22 : Value).ownBlock) (.slice Ao21 x11_1.length co21) x11_1) := ⟨by (with_reducible repeat (first | apply Kd.R_alloc | apply Kd.R_drewN | apply Kd.R_drew)); exact Kd.R_mono (Kd.R_far (p := ⟨go14, (x36_1 : Int).toNat, none⟩) (Kd.R_far (p := ⟨go13, (x36_1 : Int).toNat, none⟩) (Kd.R_mono (Kd.R_mono HO_11.out (fun k_ hk => (⟨hk, fun e_ => hk.1 (by rw [e_]; rfl)⟩ : _ ∧ k_ ≠ go13))) (fun k_ hk => (⟨hk, fun e_ => hk.1.2.1 (by rw [e_]; rfl)⟩ : _ ∧ k_ ≠ go14))) (fun _ hk => hk.1.2) (.int .i64 (wrap64 (Int.tdiv (rd x8_1 x36_1) 5)))) (fun _ hk => hk.2) (.int .i64 (wrap64 (Int.tdiv (rd x9_1 x36_1) 5)))) (fun _ hk => ⟨hk.1.1.1, ⟨hk.1.1.2.1, hk.1.1.2.2⟩⟩)⟩
                  have n3_ : Aside0 (Kd.R (Kd.int .i64) 3 ((w17.setCell ⟨go13, (x36_1 : Int).toNat, none⟩ (.int .i64 (wrap64 (Int.tdiv (rd x8_1 x36_1) 5)))).setCell ⟨go14, (x36_1 : Int).toNat, none⟩ (.int .i64 (wrap64 (Int.tdiv (rd x9_1 x36_1) 5)))) w.heap.size (fun k_ => some k_ ≠ (.slice (some ⟨go13, 0, none⟩) x8_1.length co8 : Value).ownBlock ∧ some k_ ≠ (.slice (some ⟨go14, 0, none⟩) x9_1.length co18 : Value).ownBlock ∧ some k_ ≠ (.slice Ao21 x11_1.length co21 : Value).ownBlock) (.slice Ao22 x12_1.length co22) x12_1) := ⟨by (with_reducible repeat (first | apply Kd.R_alloc | apply Kd.R_drewN | apply Kd.R_drew)); exact Kd.R_mono (Kd.R_far (p := ⟨go14, (x36_1 : Int).toNat, none⟩) (Kd.R_far (p := ⟨go13, (x36_1 : Int).toNat, none⟩) (Kd.R_mono (Kd.R_mono HO_12.out (fun k_ hk => (⟨hk, fun e_ => hk.1 (by rw [e_]; rfl)⟩ : _ ∧ k_ ≠ go13))) (fun k_ hk => (⟨hk, fun e_ => hk.1.2.1 (by rw [e_]; rfl)⟩ : _ ∧ k_ ≠ go14))) (fun _ hk => hk.1.2) (.int .i64 (wrap64 (Int.tdiv (rd x8_1 x36_1) 5)))) (fun _ hk => hk.2) (.int .i64 (wrap64 (Int.tdiv (rd x9_1 x36_1) 5)))) (fun _ hk => ⟨hk.1.1.1, ⟨hk.1.1.2.1, hk.1.1.2.2⟩⟩)⟩
                  have n4_ : Aside0 (Below w.heap.size w ((w17.setCell ⟨go13, (x36_1 : Int).toNat, none⟩ (.int .i64 (wrap64 (Int.tdiv (rd x8_1 x36_1) 5)))).setCell ⟨go14, (x36_1 : Int).toNat, none⟩ (.int .i64 (wrap64 (Int.tdiv (rd x9_1 x36_1) 5))))) := ⟨by repeat (first | (with_reducible first | exact HB.out | apply below_alloc | apply pw_below_drewN | apply below_drew1 | refine below_set ?_ GB13.out | refine below_set ?_ GB14.out) | exact HB.out)⟩
                  (try clear HO_8)
                  (try clear HO_9)
                  (try clear HO_11)
                  (try clear HO_12)
                  (try clear HB)
                  generalize ((w17.setCell ⟨go13, (x36_1 : Int).toNat, none⟩ (.int .i64 (wrap64 (Int.tdiv (rd x8_1 x36_1) 5)))).setCell ⟨go14, (x36_1 : Int).toNat, none⟩ (.int .i64 (wrap64 (Int.tdiv (rd x9_1 x36_1) 5)))) = w23 at n0_ n1_ n2_ n3_ n4_ ⊢
                  have HO_8 := n0_
                  have HO_9 := n1_
                  have HO_11 := n2_
                  have HO_12 := n3_
                  have HB := n4_
                  clear n0_ n1_ n2_ n3_ n4_
                  have n0_ := Aside0.mk (Kd.R_drew HO_8.out)
                  have n1_ := Aside0.mk (Kd.R_drew HO_9.out)
                  have n2_ := Aside0.mk (Kd.R_drew HO_11.out)
                  have n3_ := Aside0.mk (Kd.R_drew HO_12.out)
                  have n4_ := Aside0.mk (below_drew1 HB.out)
                  clear HO_8
                  clear HO_9
                  clear HO_11
                  clear HO_12
                  clear HB
                  have HO_8 := n0_
                  have HO_9 := n1_
                  have HO_11 := n2_
                  have HO_12 := n3_
                  have HB := n4_
                  clear n0_ n1_ n2_ n3_ n4_
                  have p311 : 0 ≤ (x36_1 : Int) := of_decide_eq_true (by first | (with_reducible assumption) | assumption)
                  have q311 : x36_1 < (y309.length : Int) := (by have h_ : (x36_1 : Int) < ((x8_1.length : Int) : Int) := of_decide_eq_true (by first | (with_reducible assumption) | assumption); first | (have e_ := (Kd.R_reads' HO_8.out).1; omega) | simpa only [Ny309.out, List.length_set] using h_)
                  have ql311 : ((x36_1 : Int) < ((x8_1.length : Int) : Int)) = True := eq_true (of_decide_eq_true (by first | (with_reducible assumption) | assumption))
                  obtain ⟨ad311, e311, hx311_0⟩ := Kd.at_int (Kd.R_reads' HO_8.out).2.2 x36_1 p311 q311
                  obtain rfl : (⟨go13, 0, none⟩ : Addr) = ad311 := (by injection e311)
                  (first | simp only [add_plain] at hx311_0 | simp only [add_at] at hx311_0 | simp only [Addr.add, Nat.zero_add] at hx311_0 | skip)
                  replace p311 := eq_true p311
                  replace q311 := eq_true q311
                  have p318 : 0 ≤ (x36_1 : Int) := of_decide_eq_true (by first | (with_reducible assumption) | assumption)
                  have q318 : x36_1 < (y309.length : Int) := (by have h_ : (x36_1 : Int) < ((x8_1.length : Int) : Int) := of_decide_eq_true (by first | (with_reducible assumption) | assumption); first | (have e_ := (Kd.R_reads' HO_8.out).1; omega) | simpa only [Ny309.out, List.length_set] using h_)
                  have ql318 : ((x36_1 : Int) < ((x8_1.length : Int) : Int)) = True := eq_true (of_decide_eq_true (by first | (with_reducible assumption) | assumption))
                  obtain ⟨ad318, e318, hx318_0⟩ := Kd.at_int (Kd.R_reads' HO_8.out).2.2 x36_1 p318 q318
                  obtain rfl : (⟨go13, 0, none⟩ : Addr) = ad318 := (by injection e318)
                  (first | simp only [add_plain] at hx318_0 | simp only [add_at] at hx318_0 | simp only [Addr.add, Nat.zero_add] at hx318_0 | skip)
                  replace p318 := eq_true p318
                  replace q318 := eq_true q318
                  refine start_ (n := 26) (S := fun w' => w'.cell? ⟨go13, (x36_1).toNat, none⟩ = some (.int .i64 (rd y309 x36_1)) ∧ w'.cell? ⟨go13, (x36_1).toNat, none⟩ = some (.int .i64 (rd y309 x36_1))) (ds := []) #[false, false, false, false, false, false, false, false, false, false, false, false, false, false, false, false, false, false, false, false, false, false, false, false, false, false] (by kernel_rfl) rfl rfl ⟨hx311_0, hx318_0⟩ (fun hHeld => ?_); refine with_tabW shapesearchlaw13_NormalScales.tab9 shapesearchlaw13_NormalScales.bits9 (fun HT_ HW_ => ?_)
                  generalize w23.drew = w24 at HO_8 HO_9 HO_11 HO_12 HB HQ19 HQ20 hx311_0 hx318_0 hHeld ⊢
                  refine pure_ (i := 0) (N := some 55) (v := ?_) (a' := ?_) #[true, false, false, false, false, false, false, false, false, false, false, false, false, false, false, false, false, false, false, false, false, false, false, false, false, false] rfl rfl (any_of HT_.out (by kernel_rfl)) (fun _ _ _ h => h) (Or.inl ⟨by rfl, ?_⟩) ?_ ?_
                  rotate_left
                  · intro w'
                    go_simp
                    with_reducible rfl
                  rotate_left
                  · simp only [Act.put, List.setIfInBounds_toArray, List.set_cons_zero, List.set_cons_succ, i64_w, i32_w]
                    rfl
                  refine pure_ (i := 1) (N := some 56) (v := ?_) (a' := ?_) #[true, true, false, false, false, false, false, false, false, false, false, false, false, false, false, false, false, false, false, false, false, false, false, false, false, false] rfl rfl (any_of HT_.out (by kernel_rfl)) (fun _ _ _ h => h) (Or.inl ⟨by rfl, ?_⟩) ?_ ?_
                  rotate_left
                  · intro w'
                    go_simp
                    with_reducible rfl
                  rotate_left
                  · simp only [Act.put, List.setIfInBounds_toArray, List.set_cons_zero, List.set_cons_succ, i64_w, i32_w]
                    rfl
                  refine pure_ (i := 2) (N := some 57) (v := ?_) (a' := ?_) #[true, true, true, false, false, false, false, false, false, false, false, false, false, false, false, false, false, false, false, false, false, false, false, false, false, false] rfl rfl (any_of HT_.out (by kernel_rfl)) (fun _ _ _ h => h) (Or.inl ⟨by rfl, ?_⟩) ?_ ?_
                  rotate_left
                  · intro w'
                    go_simp
                    with_reducible rfl
                  rotate_left
                  · simp only [Act.put, List.setIfInBounds_toArray, List.set_cons_zero, List.set_cons_succ, i64_w, i32_w]
                    rfl
                  refine pure_ (i := 3) (N := some 58) (v := ?_) (a' := ?_) #[true, true, true, true, false, false, false, false, false, false, false, false, false, false, false, false, false, false, false, false, false, false, false, false, false, false] rfl rfl (any_of HT_.out (by kernel_rfl)) (fun _ _ _ h => h) (Or.inl ⟨by rfl, ?_⟩) ?_ ?_
                  rotate_left
                  · intro w'
                    go_simp
                    with_reducible rfl
                  rotate_left
                  · simp only [Act.put, List.setIfInBounds_toArray, List.set_cons_zero, List.set_cons_succ, i64_w, i32_w]
                    rfl
                  refine pure_ (i := 5) (N := some 60) (v := ?_) (a' := ?_) #[true, true, true, true, false, true, false, false, false, false, false, false, false, false, false, false, false, false, false, false, false, false, false, false, false, false] rfl rfl (any_of HT_.out (by kernel_rfl)) (fun _ _ _ h => h) (Or.inl ⟨by rfl, ?_⟩) ?_ ?_
                  rotate_left
                  · intro w'
                    go_simp
                    with_reducible rfl
                  rotate_left
                  · simp only [Act.put, List.setIfInBounds_toArray, List.set_cons_zero, List.set_cons_succ, i64_w, i32_w]
                    rfl
                  refine pure_ (i := 7) (N := some 62) (v := ?_) (a' := ?_) #[true, true, true, true, false, true, false, true, false, false, false, false, false, false, false, false, false, false, false, false, false, false, false, false, false, false] rfl rfl (any_of HT_.out (by kernel_rfl)) (fun _ _ _ h => h) (Or.inl ⟨by rfl, ?_⟩) ?_ ?_
                  rotate_left
                  · intro w'
                    go_simp
                    with_reducible rfl
                  rotate_left
                  · simp only [Act.put, List.setIfInBounds_toArray, List.set_cons_zero, List.set_cons_succ, i64_w, i32_w]
                    rfl
                  refine pure_ (i := 8) (N := some 63) (v := ?_) (a' := ?_) #[true, true, true, true, false, true, false, true, true, false, false, false, false, false, false, false, false, false, false, false, false, false, false, false, false, false] rfl rfl (any_of HT_.out (by kernel_rfl)) (fun _ _ _ h => h) (Or.inl ⟨by rfl, ?_⟩) ?_ ?_
                  rotate_left
                  · intro w'
                    go_simp
                    with_reducible rfl
                  rotate_left
                  · simp only [Act.put, List.setIfInBounds_toArray, List.set_cons_zero, List.set_cons_succ, i64_w, i32_w]
                    rfl
                  refine pure_ (i := 12) (N := some 67) (v := ?_) (a' := ?_) #[true, true, true, true, false, true, false, true, true, false, false, false, true, false, false, false, false, false, false, false, false, false, false, false, false, false] rfl rfl (any_of HT_.out (by kernel_rfl)) (fun _ _ _ h => h) (Or.inl ⟨by rfl, ?_⟩) ?_ ?_
                  rotate_left
                  · intro w'
                    go_simp
                    with_reducible rfl
                  rotate_left
                  · simp only [Act.put, List.setIfInBounds_toArray, List.set_cons_zero, List.set_cons_succ, i64_w, i32_w]
                    rfl
                  refine pure_ (i := 13) (N := some 68) (v := ?_) (a' := ?_) #[true, true, true, true, false, true, false, true, true, false, false, false, true, true, false, false, false, false, false, false, false, false, false, false, false, false] rfl rfl (any_of HT_.out (by kernel_rfl)) (fun _ _ _ h => h) (Or.inl ⟨by rfl, ?_⟩) ?_ ?_
                  rotate_left
                  · intro w'
                    go_simp
                    with_reducible rfl
                  rotate_left
                  · simp only [Act.put, List.setIfInBounds_toArray, List.set_cons_zero, List.set_cons_succ, i64_w, i32_w]
                    rfl
                  refine pure_ (i := 14) (N := some 69) (v := ?_) (a' := ?_) #[true, true, true, true, false, true, false, true, true, false, false, false, true, true, true, false, false, false, false, false, false, false, false, false, false, false] rfl rfl (any_of HT_.out (by kernel_rfl)) (fun _ _ _ h => h) (Or.inl ⟨by rfl, ?_⟩) ?_ ?_
                  rotate_left
                  · intro w'
                    go_simp
                    with_reducible rfl
                  rotate_left
                  · simp only [Act.put, List.setIfInBounds_toArray, List.set_cons_zero, List.set_cons_succ, i64_w, i32_w]
                    rfl
                  refine pure_ (i := 15) (N := some 70) (v := ?_) (a' := ?_) #[true, true, true, true, false, true, false, true, true, false, false, false, true, true, true, true, false, false, false, false, false, false, false, false, false, false] rfl rfl (any_of HT_.out (by kernel_rfl)) (fun _ _ _ h => h) (Or.inl ⟨by rfl, ?_⟩) ?_ ?_
                  rotate_left
                  · intro w'
                    go_simp
                    with_reducible rfl
                  rotate_left
                  · simp only [Act.put, List.setIfInBounds_toArray, List.set_cons_zero, List.set_cons_succ, i64_w, i32_w]
                    rfl
                  refine pure_ (i := 16) (N := some 71) (v := ?_) (a' := ?_) #[true, true, true, true, false, true, false, true, true, false, false, false, true, true, true, true, true, false, false, false, false, false, false, false, false, false] rfl rfl (any_of HT_.out (by kernel_rfl)) (fun _ _ _ h => h) (Or.inl ⟨by rfl, ?_⟩) ?_ ?_
                  rotate_left
                  · intro w'
                    go_simp
                    with_reducible rfl
                  rotate_left
                  · simp only [Act.put, List.setIfInBounds_toArray, List.set_cons_zero, List.set_cons_succ, i64_w, i32_w]
                    rfl
                  refine pure_ (i := 17) (N := some 72) (v := ?_) (a' := ?_) #[true, true, true, true, false, true, false, true, true, false, false, false, true, true, true, true, true, true, false, false, false, false, false, false, false, false] rfl rfl (any_of HT_.out (by kernel_rfl)) (fun _ _ _ h => h) (Or.inl ⟨by rfl, ?_⟩) ?_ ?_
                  rotate_left
                  · intro w'
                    go_simp
                    with_reducible rfl
                  rotate_left
                  · simp only [Act.put, List.setIfInBounds_toArray, List.set_cons_zero, List.set_cons_succ, i64_w, i32_w]
                    rfl
                  refine pure_ (i := 19) (N := some 74) (v := ?_) (a' := ?_) #[true, true, true, true, false, true, false, true, true, false, false, false, true, true, true, true, true, true, false, true, false, false, false, false, false, false] rfl rfl (any_of HT_.out (by kernel_rfl)) (fun _ _ _ h => h) (Or.inl ⟨by rfl, ?_⟩) ?_ ?_
                  rotate_left
                  · intro w'
                    go_simp
                    with_reducible rfl
                  rotate_left
                  · simp only [Act.put, List.setIfInBounds_toArray, List.set_cons_zero, List.set_cons_succ, i64_w, i32_w]
                    rfl
                  refine take_ (i := 4) (N := some 59) (v := ?_) (a' := ?_) #[true, true, true, true, true, true, false, true, true, false, false, false, true, true, true, true, true, true, false, true, false, false, false, false, false, false] rfl rfl (take_ofW HT_.out HW_.out (by kernel_rfl)) (fun _ _ _ h => h) (Or.inl ⟨by rfl, ?_⟩) hHeld ?_ ?_
                  rotate_left
                  · rintro w' ⟨s0, s1⟩
                    go_simp
                    with_reducible rfl
                  rotate_left
                  · simp only [Act.put, List.setIfInBounds_toArray, List.set_cons_zero, List.set_cons_succ, i64_w, i32_w]
                    rfl
                  refine pure_ (i := 6) (N := some 61) (v := ?_) (a' := ?_) #[true, true, true, true, true, true, true, true, true, false, false, false, true, true, true, true, true, true, false, true, false, false, false, false, false, false] rfl rfl (any_of HT_.out (by kernel_rfl)) (fun _ _ _ h => h) (Or.inl ⟨by rfl, ?_⟩) ?_ ?_
                  rotate_left
                  · intro w'
                    go_simp
                    with_reducible rfl
                  rotate_left
                  · simp only [Act.put, List.setIfInBounds_toArray, List.set_cons_zero, List.set_cons_succ, i64_w, i32_w]
                    rfl
                  refine pure_ (i := 9) (N := some 64) (v := ?_) (a' := ?_) #[true, true, true, true, true, true, true, true, true, true, false, false, true, true, true, true, true, true, false, true, false, false, false, false, false, false] rfl rfl (any_of HT_.out (by kernel_rfl)) (fun _ _ _ h => h) (Or.inl ⟨by rfl, ?_⟩) ?_ ?_
                  rotate_left
                  · intro w'
                    go_simp
                    with_reducible rfl
                  rotate_left
                  · simp only [Act.put, List.setIfInBounds_toArray, List.set_cons_zero, List.set_cons_succ, i64_w, i32_w]
                    rfl
                  refine take_ (i := 18) (N := some 73) (v := ?_) (a' := ?_) #[true, true, true, true, true, true, true, true, true, true, false, false, true, true, true, true, true, true, true, true, false, false, false, false, false, false] rfl rfl (take_ofW HT_.out HW_.out (by kernel_rfl)) (fun _ _ _ h => h) (Or.inl ⟨by rfl, ?_⟩) hHeld ?_ ?_
                  rotate_left
                  · rintro w' ⟨s0, s1⟩
                    go_simp
                    with_reducible rfl
                  rotate_left
                  · simp only [Act.put, List.setIfInBounds_toArray, List.set_cons_zero, List.set_cons_succ, i64_w, i32_w]
                    rfl
                  refine pure_ (i := 20) (N := some 75) (v := ?_) (a' := ?_) #[true, true, true, true, true, true, true, true, true, true, false, false, true, true, true, true, true, true, true, true, true, false, false, false, false, false] rfl rfl (any_of HT_.out (by kernel_rfl)) (fun _ _ _ h => h) (Or.inl ⟨by rfl, ?_⟩) ?_ ?_
                  rotate_left
                  · intro w'
                    go_simp
                    with_reducible rfl
                  rotate_left
                  · simp only [Act.put, List.setIfInBounds_toArray, List.set_cons_zero, List.set_cons_succ, i64_w, i32_w]
                    rfl
                  refine pure_ (i := 21) (N := some 76) (v := ?_) (a' := ?_) #[true, true, true, true, true, true, true, true, true, true, false, false, true, true, true, true, true, true, true, true, true, true, false, false, false, false] rfl rfl (any_of HT_.out (by kernel_rfl)) (fun _ _ _ h => h) (Or.inl ⟨by rfl, ?_⟩) ?_ ?_
                  rotate_left
                  · intro w'
                    go_simp
                    with_reducible rfl
                  rotate_left
                  · simp only [Act.put, List.setIfInBounds_toArray, List.set_cons_zero, List.set_cons_succ, i64_w, i32_w]
                    rfl
                  refine join_ (σ := Value × Value × Value) 3 #[true, true, true, true, true, true, true, true, true, true, true, true, true, true, true, true, true, true, true, true, true, true, true, false, false, false] (fun s_ => [(65, s_.1), (66, s_.2.1), (77, s_.2.2)]) (fun s_ w' => (w'.cell? ⟨go13, (x36_1).toNat, none⟩ = some (.int .i64 (rd y309 x36_1)) ∧ w'.cell? ⟨go13, (x36_1).toNat, none⟩ = some (.int .i64 (rd y309 x36_1))) ∧ (Kd.R (Kd.int .i64) 3 w' w.heap.size (fun k_ => some k_ ≠ (s_.2.1 : Value).ownBlock ∧ some k_ ≠ (s_.2.2 : Value).ownBlock ∧ some k_ ≠ (.slice Ao22 x12_1.length co22 : Value).ownBlock ∧ some k_ ≠ (.slice (some ⟨go13, 0, none⟩) x8_1.length co8 : Value).ownBlock ∧ some k_ ≠ (.slice (some ⟨go14, 0, none⟩) x9_1.length co18 : Value).ownBlock) s_.1 y312) ∧ (Kd.R (Kd.int .i64) 3 w' w.heap.size (fun k_ => some k_ ≠ (s_.1 : Value).ownBlock ∧ some k_ ≠ (s_.2.2 : Value).ownBlock ∧ some k_ ≠ (.slice Ao22 x12_1.length co22 : Value).ownBlock ∧ some k_ ≠ (.slice (some ⟨go13, 0, none⟩) x8_1.length co8 : Value).ownBlock ∧ some k_ ≠ (.slice (some ⟨go14, 0, none⟩) x9_1.length co18 : Value).ownBlock) s_.2.1 y315) ∧ (Kd.R (Kd.int .i64) 3 w' w.heap.size (fun k_ => some k_ ≠ (s_.1 : Value).ownBlock ∧ some k_ ≠ (s_.2.1 : Value).ownBlock ∧ some k_ ≠ (.slice Ao22 x12_1.length co22 : Value).ownBlock ∧ some k_ ≠ (.slice (some ⟨go13, 0, none⟩) x8_1.length co8 : Value).ownBlock ∧ some k_ ≠ (.slice (some ⟨go14, 0, none⟩) x9_1.length co18 : Value).ownBlock) s_.2.2 y319) ∧ (Kd.R (Kd.int .i64) 3 w' w.heap.size (fun k_ => some k_ ≠ (s_.1 : Value).ownBlock ∧ some k_ ≠ (s_.2.1 : Value).ownBlock ∧ some k_ ≠ (s_.2.2 : Value).ownBlock ∧ some k_ ≠ (.slice (some ⟨go13, 0, none⟩) x8_1.length co8 : Value).ownBlock ∧ some k_ ≠ (.slice (some ⟨go14, 0, none⟩) x9_1.length co18 : Value).ownBlock) (.slice Ao22 x12_1.length co22) x12_1) ∧ (Kd.R (Kd.int .i64) 3 w' w.heap.size (fun k_ => some k_ ≠ (s_.1 : Value).ownBlock ∧ some k_ ≠ (s_.2.1 : Value).ownBlock ∧ some k_ ≠ (s_.2.2 : Value).ownBlock ∧ some k_ ≠ (.slice Ao22 x12_1.length co22 : Value).ownBlock ∧ some k_ ≠ (.slice (some ⟨go14, 0, none⟩) x9_1.length co18 : Value).ownBlock) (.slice (some ⟨go13, 0, none⟩) x8_1.length co8) y309) ∧ (Kd.R (Kd.int .i64) 3 w' w.heap.size (fun k_ => some k_ ≠ (s_.1 : Value).ownBlock ∧ some k_ ≠ (s_.2.1 : Value).ownBlock ∧ some k_ ≠ (s_.2.2 : Value).ownBlock ∧ some k_ ≠ (.slice Ao22 x12_1.length co22 : Value).ownBlock ∧ some k_ ≠ (.slice (some ⟨go13, 0, none⟩) x8_1.length co8 : Value).ownBlock) (.slice (some ⟨go14, 0, none⟩) x9_1.length co18) y310) ∧ (Below w.heap.size w w')) ?_ ?_
                  rotate_left
                  · intro hCont
                    refine two_ (i := 10) (j := 22) (Ni := some 65) (Nj := some 77) #[true, true, true, true, true, true, true, true, true, true, true, false, true, true, true, true, true, true, true, true, true, true, false, false, false, false] #[true, true, true, true, true, true, true, true, true, true, false, false, true, true, true, true, true, true, true, true, true, true, true, false, false, false] rfl rfl rfl rfl (two_of HT_.out (by kernel_rfl)) (by decide) (by decide) (fun K hK => ?_) (fun K hK => ?_)
                    · skip
                      refine Kd.R_lit_step (Kd.int .i64) _ 3 ?hg (N := 65) ?hd (xs := ([wrap64 ((wrap64 ((rd y309 x36_1) * (wrap64 (1 + (Int.tmod (wrap64 (a1)) 4))))) + (wrap64 (a2)))] : List Int)) (inner := [.int .i64 (wrap64 ((wrap64 ((rd y309 x36_1) * (wrap64 (1 + (Int.tmod (wrap64 (a1)) 4))))) + (wrap64 (a2))))]) (ok := fun _ => True) (okp := fun _ => True) ?hr ?hp (fun _ hk => hk) trivial (Below.refl _ _) (Nat.le_refl _) (by simp) ?_; (case hd => rfl); (case hg => rfl); (case hr => first | (go_simp; done) | (go_simp; rfl)); (case hp => exact (Reps.one (show Kd.M (Kd.int .i64) _ _ _ (wrap64 ((wrap64 ((rd y309 x36_1) * (wrap64 (1 + (Int.tmod (wrap64 (a1)) 4))))) + (wrap64 (a2)))) [.int .i64 (wrap64 ((wrap64 ((rd y309 x36_1) * (wrap64 (1 + (Int.tmod (wrap64 (a1)) 4))))) + (wrap64 (a2))))] from rfl) (Reps.none _ _)))
                      intro v313 w25 ho26 hb hg_ hnew_
                      have HS0_ := (hb.cell (World.block_lt_of_cell? _ _ (hHeld.1))).trans (hHeld.1)
                      have HS1_ := (hb.cell (World.block_lt_of_cell? _ _ (hHeld.2))).trans (hHeld.2)
                      clear hg_ hnew_
                      (first | rw [← Ny312.out] at ho26 | (simp only [Int.reduceToNat] at ho26; rw [← Ny312.out] at ho26))
                      have n0_ := Aside0.mk (Kd.R_elder' (by (with_reducible repeat (first | apply Kd.R_alloc | apply Kd.R_drewN | apply Kd.R_drew)); exact HO_8.out) (Kd.R_base ho26) hb)
                      have n1_ := Aside0.mk (Kd.R_elder' (by (with_reducible repeat (first | apply Kd.R_alloc | apply Kd.R_drewN | apply Kd.R_drew)); exact HO_9.out) (Kd.R_base ho26) hb)
                      have n2_ := Aside0.mk (Kd.R_elder' (by (with_reducible repeat (first | apply Kd.R_alloc | apply Kd.R_drewN | apply Kd.R_drew)); exact HO_11.out) (Kd.R_base ho26) hb)
                      have n3_ := Aside0.mk (Kd.R_elder' (by (with_reducible repeat (first | apply Kd.R_alloc | apply Kd.R_drewN | apply Kd.R_drew)); exact HO_12.out) (Kd.R_base ho26) hb)
                      have n4_ := Aside0.mk (Kd.R_lower (Kd.R_new' (Kd.R_new' (Kd.R_new' (Kd.R_new' ho26 (Kd.R_lt (by (with_reducible repeat (first | apply Kd.R_alloc | apply Kd.R_drewN | apply Kd.R_drew)); exact HO_8.out))) (Kd.R_lt (by (with_reducible repeat (first | apply Kd.R_alloc | apply Kd.R_drewN | apply Kd.R_drew)); exact HO_9.out))) (Kd.R_lt (by (with_reducible repeat (first | apply Kd.R_alloc | apply Kd.R_drewN | apply Kd.R_drew)); exact HO_11.out))) (Kd.R_lt (by (with_reducible repeat (first | apply Kd.R_alloc | apply Kd.R_drewN | apply Kd.R_drew)); exact HO_12.out))) (below_size (by repeat (first | (with_reducible first | exact HB.out | apply below_alloc | apply pw_below_drewN | apply below_drew1) | exact HB.out))))
                      have n5_ := Aside0.mk (below_step (by repeat (first | (with_reducible first | exact HB.out | apply below_alloc | apply pw_below_drewN | apply below_drew1) | exact HB.out)) hb)
                      clear HO_8
                      clear HO_9
                      clear HO_11
                      clear HO_12
                      clear HB
                      have HO_8 := n0_
                      have HO_9 := n1_
                      have HO_11 := n2_
                      have HO_12 := n3_
                      have HO314 := n4_
                      have HB := n5_
                      clear n0_ n1_ n2_ n3_ n4_ n5_
                      clear hb ho26
                      obtain ⟨Ao28, co28, eo28⟩ := Kd.R_slice HO314.out
                      (first | subst eo28 | (injection eo28 with f1_ f2_ f3_; have f4_ := f1_.symm; have f5_ := f3_.symm; clear f1_ f2_ f3_; subst f4_; subst f5_))
                      refine hK.out _ _ ⟨HS0_, HS1_⟩ (fun hHeld => ?_)
                      clear hK K
                      refine norm_ (a' := ?_) ?_ ?_
                      rotate_left
                      · show Act.put _ (some 65) _ = _
                        simp only [Act.put, List.setIfInBounds_toArray, List.set_cons_zero, List.set_cons_succ, i64_w, i32_w]
                        rfl
                      refine two_ (i := 11) (j := 22) (Ni := some 66) (Nj := some 77) #[true, true, true, true, true, true, true, true, true, true, true, true, true, true, true, true, true, true, true, true, true, true, false, false, false, false] #[true, true, true, true, true, true, true, true, true, true, true, false, true, true, true, true, true, true, true, true, true, true, true, false, false, false] rfl rfl rfl rfl (two_of HT_.out (by kernel_rfl)) (by decide) (by decide) (fun K hK => ?_) (fun K hK => ?_)
                      · skip
                        refine Kd.R_append_rows_step (Kd.int .i64) (w0 := w) w.heap.size (by rfl) (.tmp 55) (.tmp 65) 22 3 (.int .i64 0) 8 rfl Try.underlying22 info3 rfl (by decide) (by omega) (.slice Ao21 x11_1.length co21) x11_1 y312 _ _ _ (fun k_ => some k_ ≠ (.slice (some ⟨go13, 0, none⟩) x8_1.length co8 : Value).ownBlock ∧ some k_ ≠ (.slice (some ⟨go14, 0, none⟩) x9_1.length co18 : Value).ownBlock ∧ some k_ ≠ (.slice Ao22 x12_1.length co22 : Value).ownBlock ∧ some k_ ≠ (.slice Ao28 y312.length co28 : Value).ownBlock) (fun _ => False) rfl rfl ?aO ?aR (fun _ _ h => h) (fun _ h => h.elim) ?aF ?aB ?aS ?aL ?_
                        (case aR => repeat (first | exact (Kd.R_reads' HO314.out).2.2 | (with_reducible refine Kd.C_alloc ?_ _) | (with_reducible refine Kd.C_drewN ?_ _) | (with_reducible refine Kd.C_drew ?_)))
                        (case aB => exact (by repeat (first | (with_reducible first | exact HB.out | apply below_alloc | apply pw_below_drewN | apply below_drew1) | exact HB.out)))
                        (case aF => exact (fun k_ hk => ⟨Kd.fresh' (Kd.R_lt (by (with_reducible repeat (first | apply Kd.R_alloc | apply Kd.R_drewN | apply Kd.R_drew)); exact HO_8.out)) k_ hk, Kd.fresh' (Kd.R_lt (by (with_reducible repeat (first | apply Kd.R_alloc | apply Kd.R_drewN | apply Kd.R_drew)); exact HO_9.out)) k_ hk, Kd.fresh' (Kd.R_lt (by (with_reducible repeat (first | apply Kd.R_alloc | apply Kd.R_drewN | apply Kd.R_drew)); exact HO_12.out)) k_ hk, Kd.fresh' (Kd.R_lt (by (with_reducible repeat (first | apply Kd.R_alloc | apply Kd.R_drewN | apply Kd.R_drew)); exact HO314.out)) k_ hk⟩))
                        (case aO => exact (by (with_reducible repeat (first | apply Kd.R_alloc | apply Kd.R_drewN | apply Kd.R_drew)); exact Kd.R_mono HO_11.out (fun _ hk => ⟨hk.1.1, ⟨hk.1.2.1, ⟨hk.1.2.2, hk.2⟩⟩⟩)))
                        (case aS => exact (below_size (by repeat (first | (with_reducible first | exact HB.out | apply below_alloc | apply pw_below_drewN | apply below_drew1) | exact HB.out))))
                        (case aL => have := LMc15.out; omega)
                        intro v316 w27 ho hb hg hat
                        (first | have HS0_ := cell_grown hg (hHeld.1) (by first | (rw [add_block]; exact (fun e_ => ((HO_11.out.1 _ e_.symm).1.1) rfl)) | (show some (Addr.add _ _).block ≠ _; rw [add_block]; exact (fun e_ => ((HO_11.out.1 _ e_.symm).1.1) rfl)) | exact (fun e_ => ((HO_11.out.1 _ e_.symm).1.1) rfl)) | have HS0_ := cell_grown hg (cell_unalloc (hHeld.1) (by first | (rw [add_block]; exact Kd.R_lt HO_8.out _ rfl) | (show (Addr.add _ _).block < _; rw [add_block]; exact Kd.R_lt HO_8.out _ rfl) | exact Kd.R_lt HO_8.out _ rfl)) (by first | (rw [add_block]; exact (fun e_ => ((HO_11.out.1 _ e_.symm).1.1) rfl)) | (show some (Addr.add _ _).block ≠ _; rw [add_block]; exact (fun e_ => ((HO_11.out.1 _ e_.symm).1.1) rfl)) | exact (fun e_ => ((HO_11.out.1 _ e_.symm).1.1) rfl)))
                        (first | have HS1_ := cell_grown hg (hHeld.2) (by first | (rw [add_block]; exact (fun e_ => ((HO_11.out.1 _ e_.symm).1.1) rfl)) | (show some (Addr.add _ _).block ≠ _; rw [add_block]; exact (fun e_ => ((HO_11.out.1 _ e_.symm).1.1) rfl)) | exact (fun e_ => ((HO_11.out.1 _ e_.symm).1.1) rfl)) | have HS1_ := cell_grown hg (cell_unalloc (hHeld.2) (by first | (rw [add_block]; exact Kd.R_lt HO_8.out _ rfl) | (show (Addr.add _ _).block < _; rw [add_block]; exact Kd.R_lt HO_8.out _ rfl) | exact Kd.R_lt HO_8.out _ rfl)) (by first | (rw [add_block]; exact (fun e_ => ((HO_11.out.1 _ e_.symm).1.1) rfl)) | (show some (Addr.add _ _).block ≠ _; rw [add_block]; exact (fun e_ => ((HO_11.out.1 _ e_.symm).1.1) rfl)) | exact (fun e_ => ((HO_11.out.1 _ e_.symm).1.1) rfl)))
                        rw [← Ny315.out] at ho
                        have n0_ := Aside0.mk (Kd.R_after (ok := (fun k_ => some k_ ≠ (.slice (some ⟨go14, 0, none⟩) x9_1.length co18 : Value).ownBlock ∧ some k_ ≠ (.slice Ao22 x12_1.length co22 : Value).ownBlock ∧ some k_ ≠ (.slice Ao28 y312.length co28 : Value).ownBlock)) (by (with_reducible repeat (first | apply Kd.R_alloc | apply Kd.R_drewN | apply Kd.R_drew)); exact Kd.R_mono HO_8.out (fun _ hk => ⟨⟨hk.1.1, ⟨hk.1.2.2, hk.2⟩⟩, hk.1.2.1⟩)) hg hat)
                        have n1_ := Aside0.mk (Kd.R_after (ok := (fun k_ => some k_ ≠ (.slice (some ⟨go13, 0, none⟩) x8_1.length co8 : Value).ownBlock ∧ some k_ ≠ (.slice Ao22 x12_1.length co22 : Value).ownBlock ∧ some k_ ≠ (.slice Ao28 y312.length co28 : Value).ownBlock)) (by (with_reducible repeat (first | apply Kd.R_alloc | apply Kd.R_drewN | apply Kd.R_drew)); exact Kd.R_mono HO_9.out (fun _ hk => ⟨⟨hk.1.1, ⟨hk.1.2.2, hk.2⟩⟩, hk.1.2.1⟩)) hg hat)
                        have n2_ := Aside0.mk (Kd.R_after (ok := (fun k_ => some k_ ≠ (.slice (some ⟨go13, 0, none⟩) x8_1.length co8 : Value).ownBlock ∧ some k_ ≠ (.slice (some ⟨go14, 0, none⟩) x9_1.length co18 : Value).ownBlock ∧ some k_ ≠ (.slice Ao28 y312.length co28 : Value).ownBlock)) (by (with_reducible repeat (first | apply Kd.R_alloc | apply Kd.R_drewN | apply Kd.R_drew)); exact Kd.R_mono HO_12.out (fun _ hk => ⟨⟨hk.1.1, ⟨hk.1.2.1, hk.2⟩⟩, hk.1.2.2⟩)) hg hat)
                        have n3_ := Aside0.mk (Kd.R_after (ok := (fun k_ => some k_ ≠ (.slice (some ⟨go13, 0, none⟩) x8_1.length co8 : Value).ownBlock ∧ some k_ ≠ (.slice (some ⟨go14, 0, none⟩) x9_1.length co18 : Value).ownBlock ∧ some k_ ≠ (.slice Ao22 x12_1.length co22 : Value).ownBlock)) (by (with_reducible repeat (first | apply Kd.R_alloc | apply Kd.R_drewN | apply Kd.R_drew)); exact Kd.R_mono HO314.out (fun _ hk => ⟨⟨hk.1.1.1.2, ⟨hk.1.1.2, hk.2⟩⟩, hk.1.2⟩)) hg hat)
                        have n4_ := Aside0.mk (hb)
                        have n5_ := Aside0.mk (ho)
                        clear HO_8
                        clear HO_9
                        clear HO_12
                        clear HO314
                        clear HB
                        clear HO_11
                        have HO_8 := n0_
                        have HO_9 := n1_
                        have HO_12 := n2_
                        have HO314 := n3_
                        have HB := n4_
                        have HO317 := n5_
                        clear n0_ n1_ n2_ n3_ n4_ n5_
                        clear ho hb hg hat
                        refine hK.out _ _ ⟨HS0_, HS1_⟩ (fun hHeld => ?_)
                        clear hK K
                        refine norm_ (a' := ?_) ?_ ?_
                        rotate_left
                        · show Act.put _ (some 66) _ = _
                          simp only [Act.put, List.setIfInBounds_toArray, List.set_cons_zero, List.set_cons_succ, i64_w, i32_w]
                          rfl
                        refine one_ (i := 22) (N := some 77) #[true, true, true, true, true, true, true, true, true, true, true, true, true, true, true, true, true, true, true, true, true, true, true, false, false, false] rfl rfl (one_of HT_.out (by kernel_rfl)) (by decide) (fun K hK => ?_)
                        refine Kd.R_lit_step (Kd.int .i64) _ 3 ?hg (N := 77) ?hd (xs := ([wrap64 ((wrap64 (a2)) - (wrap64 ((rd y309 x36_1) * (wrap64 (1 + (Int.tmod (wrap64 (a1)) 4))))))] : List Int)) (inner := [.int .i64 (wrap64 ((wrap64 (a2)) - (wrap64 ((rd y309 x36_1) * (wrap64 (1 + (Int.tmod (wrap64 (a1)) 4)))))))]) (ok := fun _ => True) (okp := fun _ => True) ?hr ?hp (fun _ hk => hk) trivial (Below.refl _ _) (Nat.le_refl _) (by simp) ?_; (case hd => rfl); (case hg => rfl); (case hr => first | (go_simp; done) | (go_simp; rfl)); (case hp => exact (Reps.one (show Kd.M (Kd.int .i64) _ _ _ (wrap64 ((wrap64 (a2)) - (wrap64 ((rd y309 x36_1) * (wrap64 (1 + (Int.tmod (wrap64 (a1)) 4))))))) [.int .i64 (wrap64 ((wrap64 (a2)) - (wrap64 ((rd y309 x36_1) * (wrap64 (1 + (Int.tmod (wrap64 (a1)) 4)))))))] from rfl) (Reps.none _ _)))
                        intro v320 w29 ho30 hb hg_ hnew_
                        have HS0_ := (hb.cell (World.block_lt_of_cell? _ _ (hHeld.1))).trans (hHeld.1)
                        have HS1_ := (hb.cell (World.block_lt_of_cell? _ _ (hHeld.2))).trans (hHeld.2)
                        clear hg_ hnew_
                        (first | rw [← Ny319.out] at ho30 | (simp only [Int.reduceToNat] at ho30; rw [← Ny319.out] at ho30))
                        have n0_ := Aside0.mk (Kd.R_elder' (by (with_reducible repeat (first | apply Kd.R_alloc | apply Kd.R_drewN | apply Kd.R_drew)); exact HO_8.out) (Kd.R_base ho30) hb)
                        have n1_ := Aside0.mk (Kd.R_elder' (by (with_reducible repeat (first | apply Kd.R_alloc | apply Kd.R_drewN | apply Kd.R_drew)); exact HO_9.out) (Kd.R_base ho30) hb)
                        have n2_ := Aside0.mk (Kd.R_elder' (by (with_reducible repeat (first | apply Kd.R_alloc | apply Kd.R_drewN | apply Kd.R_drew)); exact HO_12.out) (Kd.R_base ho30) hb)
                        have n3_ := Aside0.mk (Kd.R_elder' (by (with_reducible repeat (first | apply Kd.R_alloc | apply Kd.R_drewN | apply Kd.R_drew)); exact HO314.out) (Kd.R_base ho30) hb)
                        have n4_ := Aside0.mk (Kd.R_elder' (by (with_reducible repeat (first | apply Kd.R_alloc | apply Kd.R_drewN | apply Kd.R_drew)); exact HO317.out) (Kd.R_base ho30) hb)
                        have n5_ := Aside0.mk (Kd.R_lower (Kd.R_new' (Kd.R_new' (Kd.R_new' (Kd.R_new' (Kd.R_new' ho30 (Kd.R_lt (by (with_reducible repeat (first | apply Kd.R_alloc | apply Kd.R_drewN | apply Kd.R_drew)); exact HO_8.out))) (Kd.R_lt (by (with_reducible repeat (first | apply Kd.R_alloc | apply Kd.R_drewN | apply Kd.R_drew)); exact HO_9.out))) (Kd.R_lt (by (with_reducible repeat (first | apply Kd.R_alloc | apply Kd.R_drewN | apply Kd.R_drew)); exact HO_12.out))) (Kd.R_lt (by (with_reducible repeat (first | apply Kd.R_alloc | apply Kd.R_drewN | apply Kd.R_drew)); exact HO314.out))) (Kd.R_lt (by (with_reducible repeat (first | apply Kd.R_alloc | apply Kd.R_drewN | apply Kd.R_drew)); exact HO317.out))) (below_size (by repeat (first | (with_reducible first | exact HB.out | apply below_alloc | apply pw_below_drewN | apply below_drew1) | exact HB.out))))
                        have n6_ := Aside0.mk (below_step (by repeat (first | (with_reducible first | exact HB.out | apply below_alloc | apply pw_below_drewN | apply below_drew1) | exact HB.out)) hb)
                        clear HO_8
                        clear HO_9
                        clear HO_12
                        clear HO314
                        clear HO317
                        clear HB
                        have HO_8 := n0_
                        have HO_9 := n1_
                        have HO_12 := n2_
                        have HO314 := n3_
                        have HO317 := n4_
                        have HO321 := n5_
                        have HB := n6_
                        clear n0_ n1_ n2_ n3_ n4_ n5_ n6_
                        clear hb ho30
                        refine hK.out _ _ ⟨HS0_, HS1_⟩ (fun hHeld => ?_)
                        clear hK K
                        refine norm_ (a' := ?_) ?_ ?_
                        rotate_left
                        · show Act.put _ (some 77) _ = _
                          simp only [Act.put, List.setIfInBounds_toArray, List.set_cons_zero, List.set_cons_succ, i64_w, i32_w]
                          rfl
                        exact norm_ (by simp only [putAll, Act.put, List.setIfInBounds_toArray, List.set_cons_zero, List.set_cons_succ]) (hCont (.slice Ao28 y312.length co28, v316, v320) _ ⟨hHeld, (by (with_reducible repeat (first | apply Kd.R_alloc | apply Kd.R_drewN | apply Kd.R_drew)); exact Kd.R_mono HO314.out (fun _ hk => ⟨hk.1.2, ⟨hk.2, ⟨hk.1.1.2.2, ⟨hk.1.1.1, hk.1.1.2.1⟩⟩⟩⟩)), (by (with_reducible repeat (first | apply Kd.R_alloc | apply Kd.R_drewN | apply Kd.R_drew)); exact Kd.R_mono HO317.out (fun _ hk => ⟨hk.1.2.2.2, ⟨hk.2, ⟨hk.1.2.2.1, ⟨hk.1.1, hk.1.2.1⟩⟩⟩⟩)), (by (with_reducible repeat (first | apply Kd.R_alloc | apply Kd.R_drewN | apply Kd.R_drew)); exact Kd.R_mono HO321.out (fun _ hk => ⟨hk.1.2, ⟨hk.2, ⟨hk.1.1.2, ⟨hk.1.1.1.1.2, hk.1.1.1.2⟩⟩⟩⟩)), (by (with_reducible repeat (first | apply Kd.R_alloc | apply Kd.R_drewN | apply Kd.R_drew)); exact Kd.R_mono HO_12.out (fun _ hk => ⟨hk.1.1.2.2, ⟨hk.1.2, ⟨hk.2, ⟨hk.1.1.1, hk.1.1.2.1⟩⟩⟩⟩)), (by (with_reducible repeat (first | apply Kd.R_alloc | apply Kd.R_drewN | apply Kd.R_drew)); exact Kd.R_mono HO_8.out (fun _ hk => ⟨hk.1.1.2.2, ⟨hk.1.2, ⟨hk.2, ⟨hk.1.1.2.1, hk.1.1.1⟩⟩⟩⟩)), (by (with_reducible repeat (first | apply Kd.R_alloc | apply Kd.R_drewN | apply Kd.R_drew)); exact Kd.R_mono HO_9.out (fun _ hk => ⟨hk.1.1.2.2, ⟨hk.1.2, ⟨hk.2, ⟨hk.1.1.2.1, hk.1.1.1⟩⟩⟩⟩)), (by repeat (first | (with_reducible first | exact HB.out | apply below_alloc | apply pw_below_drewN | apply below_drew1) | exact HB.out))⟩)
                      · skip
                        refine Kd.R_lit_step (Kd.int .i64) _ 3 ?hg (N := 77) ?hd (xs := ([wrap64 ((wrap64 (a2)) - (wrap64 ((rd y309 x36_1) * (wrap64 (1 + (Int.tmod (wrap64 (a1)) 4))))))] : List Int)) (inner := [.int .i64 (wrap64 ((wrap64 (a2)) - (wrap64 ((rd y309 x36_1) * (wrap64 (1 + (Int.tmod (wrap64 (a1)) 4)))))))]) (ok := fun _ => True) (okp := fun _ => True) ?hr ?hp (fun _ hk => hk) trivial (Below.refl _ _) (Nat.le_refl _) (by simp) ?_; (case hd => rfl); (case hg => rfl); (case hr => first | (go_simp; done) | (go_simp; rfl)); (case hp => exact (Reps.one (show Kd.M (Kd.int .i64) _ _ _ (wrap64 ((wrap64 (a2)) - (wrap64 ((rd y309 x36_1) * (wrap64 (1 + (Int.tmod (wrap64 (a1)) 4))))))) [.int .i64 (wrap64 ((wrap64 (a2)) - (wrap64 ((rd y309 x36_1) * (wrap64 (1 + (Int.tmod (wrap64 (a1)) 4)))))))] from rfl) (Reps.none _ _)))
                        intro v320 w27 ho28 hb hg_ hnew_
                        have HS0_ := (hb.cell (World.block_lt_of_cell? _ _ (hHeld.1))).trans (hHeld.1)
                        have HS1_ := (hb.cell (World.block_lt_of_cell? _ _ (hHeld.2))).trans (hHeld.2)
                        clear hg_ hnew_
                        (first | rw [← Ny319.out] at ho28 | (simp only [Int.reduceToNat] at ho28; rw [← Ny319.out] at ho28))
                        have n0_ := Aside0.mk (Kd.R_elder' (by (with_reducible repeat (first | apply Kd.R_alloc | apply Kd.R_drewN | apply Kd.R_drew)); exact HO_8.out) (Kd.R_base ho28) hb)
                        have n1_ := Aside0.mk (Kd.R_elder' (by (with_reducible repeat (first | apply Kd.R_alloc | apply Kd.R_drewN | apply Kd.R_drew)); exact HO_9.out) (Kd.R_base ho28) hb)
                        have n2_ := Aside0.mk (Kd.R_elder' (by (with_reducible repeat (first | apply Kd.R_alloc | apply Kd.R_drewN | apply Kd.R_drew)); exact HO_11.out) (Kd.R_base ho28) hb)
                        have n3_ := Aside0.mk (Kd.R_elder' (by (with_reducible repeat (first | apply Kd.R_alloc | apply Kd.R_drewN | apply Kd.R_drew)); exact HO_12.out) (Kd.R_base ho28) hb)
                        have n4_ := Aside0.mk (Kd.R_elder' (by (with_reducible repeat (first | apply Kd.R_alloc | apply Kd.R_drewN | apply Kd.R_drew)); exact HO314.out) (Kd.R_base ho28) hb)
                        have n5_ := Aside0.mk (Kd.R_lower (Kd.R_new' (Kd.R_new' (Kd.R_new' (Kd.R_new' (Kd.R_new' ho28 (Kd.R_lt (by (with_reducible repeat (first | apply Kd.R_alloc | apply Kd.R_drewN | apply Kd.R_drew)); exact HO_8.out))) (Kd.R_lt (by (with_reducible repeat (first | apply Kd.R_alloc | apply Kd.R_drewN | apply Kd.R_drew)); exact HO_9.out))) (Kd.R_lt (by (with_reducible repeat (first | apply Kd.R_alloc | apply Kd.R_drewN | apply Kd.R_drew)); exact HO_11.out))) (Kd.R_lt (by (with_reducible repeat (first | apply Kd.R_alloc | apply Kd.R_drewN | apply Kd.R_drew)); exact HO_12.out))) (Kd.R_lt (by (with_reducible repeat (first | apply Kd.R_alloc | apply Kd.R_drewN | apply Kd.R_drew)); exact HO314.out))) (below_size (by repeat (first | (with_reducible first | exact HB.out | apply below_alloc | apply pw_below_drewN | apply below_drew1) | exact HB.out))))
                        have n6_ := Aside0.mk (below_step (by repeat (first | (with_reducible first | exact HB.out | apply below_alloc | apply pw_below_drewN | apply below_drew1) | exact HB.out)) hb)
                        clear HO_8
                        clear HO_9
                        clear HO_11
                        clear HO_12
                        clear HO314
                        clear HB
                        have HO_8 := n0_
                        have HO_9 := n1_
                        have HO_11 := n2_
                        have HO_12 := n3_
                        have HO314 := n4_
                        have HO321 := n5_
                        have HB := n6_
                        clear n0_ n1_ n2_ n3_ n4_ n5_ n6_
                        clear hb ho28
                        obtain ⟨Ao30, co30, eo30⟩ := Kd.R_slice HO314.out
                        (first | subst eo30 | (injection eo30 with f1_ f2_ f3_; have f4_ := f1_.symm; have f5_ := f3_.symm; clear f1_ f2_ f3_; subst f4_; subst f5_))
                        refine hK.out _ _ ⟨HS0_, HS1_⟩ (fun hHeld => ?_)
                        clear hK K
                        refine norm_ (a' := ?_) ?_ ?_
                        rotate_left
                        · show Act.put _ (some 77) _ = _
                          simp only [Act.put, List.setIfInBounds_toArray, List.set_cons_zero, List.set_cons_succ, i64_w, i32_w]
                          rfl
                        refine one_ (i := 11) (N := some 66) #[true, true, true, true, true, true, true, true, true, true, true, true, true, true, true, true, true, true, true, true, true, true, true, false, false, false] rfl rfl (one_of HT_.out (by kernel_rfl)) (by decide) (fun K hK => ?_)
                        refine Kd.R_append_rows_step (Kd.int .i64) (w0 := w) w.heap.size (by rfl) (.tmp 55) (.tmp 65) 22 3 (.int .i64 0) 8 rfl Try.underlying22 info3 rfl (by decide) (by omega) (.slice Ao21 x11_1.length co21) x11_1 y312 _ _ _ (fun k_ => some k_ ≠ (.slice (some ⟨go13, 0, none⟩) x8_1.length co8 : Value).ownBlock ∧ some k_ ≠ (.slice (some ⟨go14, 0, none⟩) x9_1.length co18 : Value).ownBlock ∧ some k_ ≠ (.slice Ao22 x12_1.length co22 : Value).ownBlock ∧ some k_ ≠ (.slice Ao30 y312.length co30 : Value).ownBlock ∧ some k_ ≠ (v320 : Value).ownBlock) (fun _ => False) rfl rfl ?aO ?aR (fun _ _ h => h) (fun _ h => h.elim) ?aF ?aB ?aS ?aL ?_
                        (case aR => repeat (first | exact (Kd.R_reads' HO314.out).2.2 | (with_reducible refine Kd.C_alloc ?_ _) | (with_reducible refine Kd.C_drewN ?_ _) | (with_reducible refine Kd.C_drew ?_)))
                        (case aB => exact (by repeat (first | (with_reducible first | exact HB.out | apply below_alloc | apply pw_below_drewN | apply below_drew1) | exact HB.out)))
                        (case aF => exact (fun k_ hk => ⟨Kd.fresh' (Kd.R_lt (by (with_reducible repeat (first | apply Kd.R_alloc | apply Kd.R_drewN | apply Kd.R_drew)); exact HO_8.out)) k_ hk, Kd.fresh' (Kd.R_lt (by (with_reducible repeat (first | apply Kd.R_alloc | apply Kd.R_drewN | apply Kd.R_drew)); exact HO_9.out)) k_ hk, Kd.fresh' (Kd.R_lt (by (with_reducible repeat (first | apply Kd.R_alloc | apply Kd.R_drewN | apply Kd.R_drew)); exact HO_12.out)) k_ hk, Kd.fresh' (Kd.R_lt (by (with_reducible repeat (first | apply Kd.R_alloc | apply Kd.R_drewN | apply Kd.R_drew)); exact HO314.out)) k_ hk, Kd.fresh' (Kd.R_lt (by (with_reducible repeat (first | apply Kd.R_alloc | apply Kd.R_drewN | apply Kd.R_drew)); exact HO321.out)) k_ hk⟩))
                        (case aO => exact (by (with_reducible repeat (first | apply Kd.R_alloc | apply Kd.R_drewN | apply Kd.R_drew)); exact Kd.R_mono HO_11.out (fun _ hk => ⟨hk.1.1.1, ⟨hk.1.1.2.1, ⟨hk.1.1.2.2, ⟨hk.1.2, hk.2⟩⟩⟩⟩)))
                        (case aS => exact (below_size (by repeat (first | (with_reducible first | exact HB.out | apply below_alloc | apply pw_below_drewN | apply below_drew1) | exact HB.out))))
                        (case aL => have := LMc15.out; omega)
                        intro v316 w29 ho hb hg hat
                        (first | have HS0_ := cell_grown hg (hHeld.1) (by first | (rw [add_block]; exact (fun e_ => ((HO_11.out.1 _ e_.symm).1.1.1) rfl)) | (show some (Addr.add _ _).block ≠ _; rw [add_block]; exact (fun e_ => ((HO_11.out.1 _ e_.symm).1.1.1) rfl)) | exact (fun e_ => ((HO_11.out.1 _ e_.symm).1.1.1) rfl)) | have HS0_ := cell_grown hg (cell_unalloc (hHeld.1) (by first | (rw [add_block]; exact Kd.R_lt HO_8.out _ rfl) | (show (Addr.add _ _).block < _; rw [add_block]; exact Kd.R_lt HO_8.out _ rfl) | exact Kd.R_lt HO_8.out _ rfl)) (by first | (rw [add_block]; exact (fun e_ => ((HO_11.out.1 _ e_.symm).1.1.1) rfl)) | (show some (Addr.add _ _).block ≠ _; rw [add_block]; exact (fun e_ => ((HO_11.out.1 _ e_.symm).1.1.1) rfl)) | exact (fun e_ => ((HO_11.out.1 _ e_.symm).1.1.1) rfl)))
                        (first | have HS1_ := cell_grown hg (hHeld.2) (by first | (rw [add_block]; exact (fun e_ => ((HO_11.out.1 _ e_.symm).1.1.1) rfl)) | (show some (Addr.add _ _).block ≠ _; rw [add_block]; exact (fun e_ => ((HO_11.out.1 _ e_.symm).1.1.1) rfl)) | exact (fun e_ => ((HO_11.out.1 _ e_.symm).1.1.1) rfl)) | have HS1_ := cell_grown hg (cell_unalloc (hHeld.2) (by first | (rw [add_block]; exact Kd.R_lt HO_8.out _ rfl) | (show (Addr.add _ _).block < _; rw [add_block]; exact Kd.R_lt HO_8.out _ rfl) | exact Kd.R_lt HO_8.out _ rfl)) (by first | (rw [add_block]; exact (fun e_ => ((HO_11.out.1 _ e_.symm).1.1.1) rfl)) | (show some (Addr.add _ _).block ≠ _; rw [add_block]; exact (fun e_ => ((HO_11.out.1 _ e_.symm).1.1.1) rfl)) | exact (fun e_ => ((HO_11.out.1 _ e_.symm).1.1.1) rfl)))
                        rw [← Ny315.out] at ho
                        have n0_ := Aside0.mk (Kd.R_after (ok := (fun k_ => some k_ ≠ (.slice (some ⟨go14, 0, none⟩) x9_1.length co18 : Value).ownBlock ∧ some k_ ≠ (.slice Ao22 x12_1.length co22 : Value).ownBlock ∧ some k_ ≠ (.slice Ao30 y312.length co30 : Value).ownBlock ∧ some k_ ≠ (v320 : Value).ownBlock)) (by (with_reducible repeat (first | apply Kd.R_alloc | apply Kd.R_drewN | apply Kd.R_drew)); exact Kd.R_mono HO_8.out (fun _ hk => ⟨⟨hk.1.1.1, ⟨hk.1.1.2.2, ⟨hk.1.2, hk.2⟩⟩⟩, hk.1.1.2.1⟩)) hg hat)
                        have n1_ := Aside0.mk (Kd.R_after (ok := (fun k_ => some k_ ≠ (.slice (some ⟨go13, 0, none⟩) x8_1.length co8 : Value).ownBlock ∧ some k_ ≠ (.slice Ao22 x12_1.length co22 : Value).ownBlock ∧ some k_ ≠ (.slice Ao30 y312.length co30 : Value).ownBlock ∧ some k_ ≠ (v320 : Value).ownBlock)) (by (with_reducible repeat (first | apply Kd.R_alloc | apply Kd.R_drewN | apply Kd.R_drew)); exact Kd.R_mono HO_9.out (fun _ hk => ⟨⟨hk.1.1.1, ⟨hk.1.1.2.2, ⟨hk.1.2, hk.2⟩⟩⟩, hk.1.1.2.1⟩)) hg hat)
                        have n2_ := Aside0.mk (Kd.R_after (ok := (fun k_ => some k_ ≠ (.slice (some ⟨go13, 0, none⟩) x8_1.length co8 : Value).ownBlock ∧ some k_ ≠ (.slice (some ⟨go14, 0, none⟩) x9_1.length co18 : Value).ownBlock ∧ some k_ ≠ (.slice Ao30 y312.length co30 : Value).ownBlock ∧ some k_ ≠ (v320 : Value).ownBlock)) (by (with_reducible repeat (first | apply Kd.R_alloc | apply Kd.R_drewN | apply Kd.R_drew)); exact Kd.R_mono HO_12.out (fun _ hk => ⟨⟨hk.1.1.1, ⟨hk.1.1.2.1, ⟨hk.1.2, hk.2⟩⟩⟩, hk.1.1.2.2⟩)) hg hat)
                        have n3_ := Aside0.mk (Kd.R_after (ok := (fun k_ => some k_ ≠ (.slice (some ⟨go13, 0, none⟩) x8_1.length co8 : Value).ownBlock ∧ some k_ ≠ (.slice (some ⟨go14, 0, none⟩) x9_1.length co18 : Value).ownBlock ∧ some k_ ≠ (.slice Ao22 x12_1.length co22 : Value).ownBlock ∧ some k_ ≠ (v320 : Value).ownBlock)) (by (with_reducible repeat (first | apply Kd.R_alloc | apply Kd.R_drewN | apply Kd.R_drew)); exact Kd.R_mono HO314.out (fun _ hk => ⟨⟨hk.1.1.1.1.2, ⟨hk.1.1.1.2, ⟨hk.1.2, hk.2⟩⟩⟩, hk.1.1.2⟩)) hg hat)
                        have n4_ := Aside0.mk (Kd.R_after (ok := (fun k_ => some k_ ≠ (.slice (some ⟨go13, 0, none⟩) x8_1.length co8 : Value).ownBlock ∧ some k_ ≠ (.slice (some ⟨go14, 0, none⟩) x9_1.length co18 : Value).ownBlock ∧ some k_ ≠ (.slice Ao22 x12_1.length co22 : Value).ownBlock ∧ some k_ ≠ (.slice Ao30 y312.length co30 : Value).ownBlock)) (by (with_reducible repeat (first | apply Kd.R_alloc | apply Kd.R_drewN | apply Kd.R_drew)); exact Kd.R_mono HO321.out (fun _ hk => ⟨⟨hk.1.1.1.1.2, ⟨hk.1.1.1.2, ⟨hk.1.2, hk.2⟩⟩⟩, hk.1.1.2⟩)) hg hat)
                        have n5_ := Aside0.mk (hb)
                        have n6_ := Aside0.mk (ho)
                        clear HO_8
                        clear HO_9
                        clear HO_12
                        clear HO314
                        clear HO321
                        clear HB
                        clear HO_11
                        have HO_8 := n0_
                        have HO_9 := n1_
                        have HO_12 := n2_
                        have HO314 := n3_
                        have HO321 := n4_
                        have HB := n5_
                        have HO317 := n6_
                        clear n0_ n1_ n2_ n3_ n4_ n5_ n6_
                        clear ho hb hg hat
                        refine hK.out _ _ ⟨HS0_, HS1_⟩ (fun hHeld => ?_)
                        clear hK K
                        refine norm_ (a' := ?_) ?_ ?_
                        rotate_left
                        · show Act.put _ (some 66) _ = _
                          simp only [Act.put, List.setIfInBounds_toArray, List.set_cons_zero, List.set_cons_succ, i64_w, i32_w]
                          rfl
                        exact norm_ (by simp only [putAll, Act.put, List.setIfInBounds_toArray, List.set_cons_zero, List.set_cons_succ]) (hCont (.slice Ao30 y312.length co30, v316, v320) _ ⟨hHeld, (by (with_reducible repeat (first | apply Kd.R_alloc | apply Kd.R_drewN | apply Kd.R_drew)); exact Kd.R_mono HO314.out (fun _ hk => ⟨hk.2, ⟨hk.1.2.2.2, ⟨hk.1.2.2.1, ⟨hk.1.1, hk.1.2.1⟩⟩⟩⟩)), (by (with_reducible repeat (first | apply Kd.R_alloc | apply Kd.R_drewN | apply Kd.R_drew)); exact Kd.R_mono HO317.out (fun _ hk => ⟨hk.2.2.2.1, ⟨hk.2.2.2.2, ⟨hk.2.2.1, ⟨hk.1, hk.2.1⟩⟩⟩⟩)), (by (with_reducible repeat (first | apply Kd.R_alloc | apply Kd.R_drewN | apply Kd.R_drew)); exact Kd.R_mono HO321.out (fun _ hk => ⟨hk.1.2.2.2, ⟨hk.2, ⟨hk.1.2.2.1, ⟨hk.1.1, hk.1.2.1⟩⟩⟩⟩)), (by (with_reducible repeat (first | apply Kd.R_alloc | apply Kd.R_drewN | apply Kd.R_drew)); exact Kd.R_mono HO_12.out (fun _ hk => ⟨hk.1.2.2.1, ⟨hk.2, ⟨hk.1.2.2.2, ⟨hk.1.1, hk.1.2.1⟩⟩⟩⟩)), (by (with_reducible repeat (first | apply Kd.R_alloc | apply Kd.R_drewN | apply Kd.R_drew)); exact Kd.R_mono HO_8.out (fun _ hk => ⟨hk.1.2.2.1, ⟨hk.2, ⟨hk.1.2.2.2, ⟨hk.1.2.1, hk.1.1⟩⟩⟩⟩)), (by (with_reducible repeat (first | apply Kd.R_alloc | apply Kd.R_drewN | apply Kd.R_drew)); exact Kd.R_mono HO_9.out (fun _ hk => ⟨hk.1.2.2.1, ⟨hk.2, ⟨hk.1.2.2.2, ⟨hk.1.2.1, hk.1.1⟩⟩⟩⟩)), (by repeat (first | (with_reducible first | exact HB.out | apply below_alloc | apply pw_below_drewN | apply below_drew1) | exact HB.out))⟩)
                    · skip
                      refine Kd.R_lit_step (Kd.int .i64) _ 3 ?hg (N := 77) ?hd (xs := ([wrap64 ((wrap64 (a2)) - (wrap64 ((rd y309 x36_1) * (wrap64 (1 + (Int.tmod (wrap64 (a1)) 4))))))] : List Int)) (inner := [.int .i64 (wrap64 ((wrap64 (a2)) - (wrap64 ((rd y309 x36_1) * (wrap64 (1 + (Int.tmod (wrap64 (a1)) 4)))))))]) (ok := fun _ => True) (okp := fun _ => True) ?hr ?hp (fun _ hk => hk) trivial (Below.refl _ _) (Nat.le_refl _) (by simp) ?_; (case hd => rfl); (case hg => rfl); (case hr => first | (go_simp; done) | (go_simp; rfl)); (case hp => exact (Reps.one (show Kd.M (Kd.int .i64) _ _ _ (wrap64 ((wrap64 (a2)) - (wrap64 ((rd y309 x36_1) * (wrap64 (1 + (Int.tmod (wrap64 (a1)) 4))))))) [.int .i64 (wrap64 ((wrap64 (a2)) - (wrap64 ((rd y309 x36_1) * (wrap64 (1 + (Int.tmod (wrap64 (a1)) 4)))))))] from rfl) (Reps.none _ _)))
                      intro v320 w25 ho26 hb hg_ hnew_
                      have HS0_ := (hb.cell (World.block_lt_of_cell? _ _ (hHeld.1))).trans (hHeld.1)
                      have HS1_ := (hb.cell (World.block_lt_of_cell? _ _ (hHeld.2))).trans (hHeld.2)
                      clear hg_ hnew_
                      (first | rw [← Ny319.out] at ho26 | (simp only [Int.reduceToNat] at ho26; rw [← Ny319.out] at ho26))
                      have n0_ := Aside0.mk (Kd.R_elder' (by (with_reducible repeat (first | apply Kd.R_alloc | apply Kd.R_drewN | apply Kd.R_drew)); exact HO_8.out) (Kd.R_base ho26) hb)
                      have n1_ := Aside0.mk (Kd.R_elder' (by (with_reducible repeat (first | apply Kd.R_alloc | apply Kd.R_drewN | apply Kd.R_drew)); exact HO_9.out) (Kd.R_base ho26) hb)
                      have n2_ := Aside0.mk (Kd.R_elder' (by (with_reducible repeat (first | apply Kd.R_alloc | apply Kd.R_drewN | apply Kd.R_drew)); exact HO_11.out) (Kd.R_base ho26) hb)
                      have n3_ := Aside0.mk (Kd.R_elder' (by (with_reducible repeat (first | apply Kd.R_alloc | apply Kd.R_drewN | apply Kd.R_drew)); exact HO_12.out) (Kd.R_base ho26) hb)
                      have n4_ := Aside0.mk (Kd.R_lower (Kd.R_new' (Kd.R_new' (Kd.R_new' (Kd.R_new' ho26 (Kd.R_lt (by (with_reducible repeat (first | apply Kd.R_alloc | apply Kd.R_drewN | apply Kd.R_drew)); exact HO_8.out))) (Kd.R_lt (by (with_reducible repeat (first | apply Kd.R_alloc | apply Kd.R_drewN | apply Kd.R_drew)); exact HO_9.out))) (Kd.R_lt (by (with_reducible repeat (first | apply Kd.R_alloc | apply Kd.R_drewN | apply Kd.R_drew)); exact HO_11.out))) (Kd.R_lt (by (with_reducible repeat (first | apply Kd.R_alloc | apply Kd.R_drewN | apply Kd.R_drew)); exact HO_12.out))) (below_size (by repeat (first | (with_reducible first | exact HB.out | apply below_alloc | apply pw_below_drewN | apply below_drew1) | exact HB.out))))
                      have n5_ := Aside0.mk (below_step (by repeat (first | (with_reducible first | exact HB.out | apply below_alloc | apply pw_below_drewN | apply below_drew1) | exact HB.out)) hb)
                      clear HO_8
                      clear HO_9
                      clear HO_11
                      clear HO_12
                      clear HB
                      have HO_8 := n0_
                      have HO_9 := n1_
                      have HO_11 := n2_
                      have HO_12 := n3_
                      have HO321 := n4_
                      have HB := n5_
                      clear n0_ n1_ n2_ n3_ n4_ n5_
                      clear hb ho26
                      refine hK.out _ _ ⟨HS0_, HS1_⟩ (fun hHeld => ?_)
                      clear hK K
                      refine norm_ (a' := ?_) ?_ ?_
                      rotate_left
                      · show Act.put _ (some 77) _ = _
                        simp only [Act.put, List.setIfInBounds_toArray, List.set_cons_zero, List.set_cons_succ, i64_w, i32_w]
                        rfl
                      refine one_ (i := 10) (N := some 65) #[true, true, true, true, true, true, true, true, true, true, true, false, true, true, true, true, true, true, true, true, true, true, true, false, false, false] rfl rfl (one_of HT_.out (by kernel_rfl)) (by decide) (fun K hK => ?_)
                      refine Kd.R_lit_step (Kd.int .i64) _ 3 ?hg (N := 65) ?hd (xs := ([wrap64 ((wrap64 ((rd y309 x36_1) * (wrap64 (1 + (Int.tmod (wrap64 (a1)) 4))))) + (wrap64 (a2)))] : List Int)) (inner := [.int .i64 (wrap64 ((wrap64 ((rd y309 x36_1) * (wrap64 (1 + (Int.tmod (wrap64 (a1)) 4))))) + (wrap64 (a2))))]) (ok := fun _ => True) (okp := fun _ => True) ?hr ?hp (fun _ hk => hk) trivial (Below.refl _ _) (Nat.le_refl _) (by simp) ?_; (case hd => rfl); (case hg => rfl); (case hr => first | (go_simp; done) | (go_simp; rfl)); (case hp => exact (Reps.one (show Kd.M (Kd.int .i64) _ _ _ (wrap64 ((wrap64 ((rd y309 x36_1) * (wrap64 (1 + (Int.tmod (wrap64 (a1)) 4))))) + (wrap64 (a2)))) [.int .i64 (wrap64 ((wrap64 ((rd y309 x36_1) * (wrap64 (1 + (Int.tmod (wrap64 (a1)) 4))))) + (wrap64 (a2))))] from rfl) (Reps.none _ _)))
                      intro v313 w27 ho28 hb hg_ hnew_
                      have HS0_ := (hb.cell (World.block_lt_of_cell? _ _ (hHeld.1))).trans (hHeld.1)
                      have HS1_ := (hb.cell (World.block_lt_of_cell? _ _ (hHeld.2))).trans (hHeld.2)
                      clear hg_ hnew_
                      (first | rw [← Ny312.out] at ho28 | (simp only [Int.reduceToNat] at ho28; rw [← Ny312.out] at ho28))
                      have n0_ := Aside0.mk (Kd.R_elder' (by (with_reducible repeat (first | apply Kd.R_alloc | apply Kd.R_drewN | apply Kd.R_drew)); exact HO_8.out) (Kd.R_base ho28) hb)
                      have n1_ := Aside0.mk (Kd.R_elder' (by (with_reducible repeat (first | apply Kd.R_alloc | apply Kd.R_drewN | apply Kd.R_drew)); exact HO_9.out) (Kd.R_base ho28) hb)
                      have n2_ := Aside0.mk (Kd.R_elder' (by (with_reducible repeat (first | apply Kd.R_alloc | apply Kd.R_drewN | apply Kd.R_drew)); exact HO_11.out) (Kd.R_base ho28) hb)
                      have n3_ := Aside0.mk (Kd.R_elder' (by (with_reducible repeat (first | apply Kd.R_alloc | apply Kd.R_drewN | apply Kd.R_drew)); exact HO_12.out) (Kd.R_base ho28) hb)
                      have n4_ := Aside0.mk (Kd.R_elder' (by (with_reducible repeat (first | apply Kd.R_alloc | apply Kd.R_drewN | apply Kd.R_drew)); exact HO321.out) (Kd.R_base ho28) hb)
                      have n5_ := Aside0.mk (Kd.R_lower (Kd.R_new' (Kd.R_new' (Kd.R_new' (Kd.R_new' (Kd.R_new' ho28 (Kd.R_lt (by (with_reducible repeat (first | apply Kd.R_alloc | apply Kd.R_drewN | apply Kd.R_drew)); exact HO_8.out))) (Kd.R_lt (by (with_reducible repeat (first | apply Kd.R_alloc | apply Kd.R_drewN | apply Kd.R_drew)); exact HO_9.out))) (Kd.R_lt (by (with_reducible repeat (first | apply Kd.R_alloc | apply Kd.R_drewN | apply Kd.R_drew)); exact HO_11.out))) (Kd.R_lt (by (with_reducible repeat (first | apply Kd.R_alloc | apply Kd.R_drewN | apply Kd.R_drew)); exact HO_12.out))) (Kd.R_lt (by (with_reducible repeat (first | apply Kd.R_alloc | apply Kd.R_drewN | apply Kd.R_drew)); exact HO321.out))) (below_size (by repeat (first | (with_reducible first | exact HB.out | apply below_alloc | apply pw_below_drewN | apply below_drew1) | exact HB.out))))
                      have n6_ := Aside0.mk (below_step (by repeat (first | (with_reducible first | exact HB.out | apply below_alloc | apply pw_below_drewN | apply below_drew1) | exact HB.out)) hb)
                      clear HO_8
                      clear HO_9
                      clear HO_11
                      clear HO_12
                      clear HO321
                      clear HB
                      have HO_8 := n0_
                      have HO_9 := n1_
                      have HO_11 := n2_
                      have HO_12 := n3_
                      have HO321 := n4_
                      have HO314 := n5_
                      have HB := n6_
                      clear n0_ n1_ n2_ n3_ n4_ n5_ n6_
                      clear hb ho28
                      obtain ⟨Ao30, co30, eo30⟩ := Kd.R_slice HO314.out
                      (first | subst eo30 | (injection eo30 with f1_ f2_ f3_; have f4_ := f1_.symm; have f5_ := f3_.symm; clear f1_ f2_ f3_; subst f4_; subst f5_))
                      refine hK.out _ _ ⟨HS0_, HS1_⟩ (fun hHeld => ?_)
                      clear hK K
                      refine norm_ (a' := ?_) ?_ ?_
                      rotate_left
                      · show Act.put _ (some 65) _ = _
                        simp only [Act.put, List.setIfInBounds_toArray, List.set_cons_zero, List.set_cons_succ, i64_w, i32_w]
                        rfl
                      refine one_ (i := 11) (N := some 66) #[true, true, true, true, true, true, true, true, true, true, true, true, true, true, true, true, true, true, true, true, true, true, true, false, false, false] rfl rfl (one_of HT_.out (by kernel_rfl)) (by decide) (fun K hK => ?_)
                      refine Kd.R_append_rows_step (Kd.int .i64) (w0 := w) w.heap.size (by rfl) (.tmp 55) (.tmp 65) 22 3 (.int .i64 0) 8 rfl Try.underlying22 info3 rfl (by decide) (by omega) (.slice Ao21 x11_1.length co21) x11_1 y312 _ _ _ (fun k_ => some k_ ≠ (.slice (some ⟨go13, 0, none⟩) x8_1.length co8 : Value).ownBlock ∧ some k_ ≠ (.slice (some ⟨go14, 0, none⟩) x9_1.length co18 : Value).ownBlock ∧ some k_ ≠ (.slice Ao22 x12_1.length co22 : Value).ownBlock ∧ some k_ ≠ (v320 : Value).ownBlock ∧ some k_ ≠ (.slice Ao30 y312.length co30 : Value).ownBlock) (fun _ => False) rfl rfl ?aO ?aR (fun _ _ h => h) (fun _ h => h.elim) ?aF ?aB ?aS ?aL ?_
                      (case aR => repeat (first | exact (Kd.R_reads' HO314.out).2.2 | (with_reducible refine Kd.C_alloc ?_ _) | (with_reducible refine Kd.C_drewN ?_ _) | (with_reducible refine Kd.C_drew ?_)))
                      (case aB => exact (by repeat (first | (with_reducible first | exact HB.out | apply below_alloc | apply pw_below_drewN | apply below_drew1) | exact HB.out)))
                      (case aF => exact (fun k_ hk => ⟨Kd.fresh' (Kd.R_lt (by (with_reducible repeat (first | apply Kd.R_alloc | apply Kd.R_drewN | apply Kd.R_drew)); exact HO_8.out)) k_ hk, Kd.fresh' (Kd.R_lt (by (with_reducible repeat (first | apply Kd.R_alloc | apply Kd.R_drewN | apply Kd.R_drew)); exact HO_9.out)) k_ hk, Kd.fresh' (Kd.R_lt (by (with_reducible repeat (first | apply Kd.R_alloc | apply Kd.R_drewN | apply Kd.R_drew)); exact HO_12.out)) k_ hk, Kd.fresh' (Kd.R_lt (by (with_reducible repeat (first | apply Kd.R_alloc | apply Kd.R_drewN | apply Kd.R_drew)); exact HO321.out)) k_ hk, Kd.fresh' (Kd.R_lt (by (with_reducible repeat (first | apply Kd.R_alloc | apply Kd.R_drewN | apply Kd.R_drew)); exact HO314.out)) k_ hk⟩))
                      (case aO => exact (by (with_reducible repeat (first | apply Kd.R_alloc | apply Kd.R_drewN | apply Kd.R_drew)); exact Kd.R_mono HO_11.out (fun _ hk => ⟨hk.1.1.1, ⟨hk.1.1.2.1, ⟨hk.1.1.2.2, ⟨hk.1.2, hk.2⟩⟩⟩⟩)))
                      (case aS => exact (below_size (by repeat (first | (with_reducible first | exact HB.out | apply below_alloc | apply pw_below_drewN | apply below_drew1) | exact HB.out))))
                      (case aL => have := LMc15.out; omega)
                      intro v316 w29 ho hb hg hat
                      (first | have HS0_ := cell_grown hg (hHeld.1) (by first | (rw [add_block]; exact (fun e_ => ((HO_11.out.1 _ e_.symm).1.1.1) rfl)) | (show some (Addr.add _ _).block ≠ _; rw [add_block]; exact (fun e_ => ((HO_11.out.1 _ e_.symm).1.1.1) rfl)) | exact (fun e_ => ((HO_11.out.1 _ e_.symm).1.1.1) rfl)) | have HS0_ := cell_grown hg (cell_unalloc (hHeld.1) (by first | (rw [add_block]; exact Kd.R_lt HO_8.out _ rfl) | (show (Addr.add _ _).block < _; rw [add_block]; exact Kd.R_lt HO_8.out _ rfl) | exact Kd.R_lt HO_8.out _ rfl)) (by first | (rw [add_block]; exact (fun e_ => ((HO_11.out.1 _ e_.symm).1.1.1) rfl)) | (show some (Addr.add _ _).block ≠ _; rw [add_block]; exact (fun e_ => ((HO_11.out.1 _ e_.symm).1.1.1) rfl)) | exact (fun e_ => ((HO_11.out.1 _ e_.symm).1.1.1) rfl)))
                      (first | have HS1_ := cell_grown hg (hHeld.2) (by first | (rw [add_block]; exact (fun e_ => ((HO_11.out.1 _ e_.symm).1.1.1) rfl)) | (show some (Addr.add _ _).block ≠ _; rw [add_block]; exact (fun e_ => ((HO_11.out.1 _ e_.symm).1.1.1) rfl)) | exact (fun e_ => ((HO_11.out.1 _ e_.symm).1.1.1) rfl)) | have HS1_ := cell_grown hg (cell_unalloc (hHeld.2) (by first | (rw [add_block]; exact Kd.R_lt HO_8.out _ rfl) | (show (Addr.add _ _).block < _; rw [add_block]; exact Kd.R_lt HO_8.out _ rfl) | exact Kd.R_lt HO_8.out _ rfl)) (by first | (rw [add_block]; exact (fun e_ => ((HO_11.out.1 _ e_.symm).1.1.1) rfl)) | (show some (Addr.add _ _).block ≠ _; rw [add_block]; exact (fun e_ => ((HO_11.out.1 _ e_.symm).1.1.1) rfl)) | exact (fun e_ => ((HO_11.out.1 _ e_.symm).1.1.1) rfl)))
                      rw [← Ny315.out] at ho
                      have n0_ := Aside0.mk (Kd.R_after (ok := (fun k_ => some k_ ≠ (.slice (some ⟨go14, 0, none⟩) x9_1.length co18 : Value).ownBlock ∧ some k_ ≠ (.slice Ao22 x12_1.length co22 : Value).ownBlock ∧ some k_ ≠ (v320 : Value).ownBlock ∧ some k_ ≠ (.slice Ao30 y312.length co30 : Value).ownBlock)) (by (with_reducible repeat (first | apply Kd.R_alloc | apply Kd.R_drewN | apply Kd.R_drew)); exact Kd.R_mono HO_8.out (fun _ hk => ⟨⟨hk.1.1.1, ⟨hk.1.1.2.2, ⟨hk.1.2, hk.2⟩⟩⟩, hk.1.1.2.1⟩)) hg hat)
                      have n1_ := Aside0.mk (Kd.R_after (ok := (fun k_ => some k_ ≠ (.slice (some ⟨go13, 0, none⟩) x8_1.length co8 : Value).ownBlock ∧ some k_ ≠ (.slice Ao22 x12_1.length co22 : Value).ownBlock ∧ some k_ ≠ (v320 : Value).ownBlock ∧ some k_ ≠ (.slice Ao30 y312.length co30 : Value).ownBlock)) (by (with_reducible repeat (first | apply Kd.R_alloc | apply Kd.R_drewN | apply Kd.R_drew)); exact Kd.R_mono HO_9.out (fun _ hk => ⟨⟨hk.1.1.1, ⟨hk.1.1.2.2, ⟨hk.1.2, hk.2⟩⟩⟩, hk.1.1.2.1⟩)) hg hat)
                      have n2_ := Aside0.mk (Kd.R_after (ok := (fun k_ => some k_ ≠ (.slice (some ⟨go13, 0, none⟩) x8_1.length co8 : Value).ownBlock ∧ some k_ ≠ (.slice (some ⟨go14, 0, none⟩) x9_1.length co18 : Value).ownBlock ∧ some k_ ≠ (v320 : Value).ownBlock ∧ some k_ ≠ (.slice Ao30 y312.length co30 : Value).ownBlock)) (by (with_reducible repeat (first | apply Kd.R_alloc | apply Kd.R_drewN | apply Kd.R_drew)); exact Kd.R_mono HO_12.out (fun _ hk => ⟨⟨hk.1.1.1, ⟨hk.1.1.2.1, ⟨hk.1.2, hk.2⟩⟩⟩, hk.1.1.2.2⟩)) hg hat)
                      have n3_ := Aside0.mk (Kd.R_after (ok := (fun k_ => some k_ ≠ (.slice (some ⟨go13, 0, none⟩) x8_1.length co8 : Value).ownBlock ∧ some k_ ≠ (.slice (some ⟨go14, 0, none⟩) x9_1.length co18 : Value).ownBlock ∧ some k_ ≠ (.slice Ao22 x12_1.length co22 : Value).ownBlock ∧ some k_ ≠ (.slice Ao30 y312.length co30 : Value).ownBlock)) (by (with_reducible repeat (first | apply Kd.R_alloc | apply Kd.R_drewN | apply Kd.R_drew)); exact Kd.R_mono HO321.out (fun _ hk => ⟨⟨hk.1.1.1.1.2, ⟨hk.1.1.1.2, ⟨hk.1.2, hk.2⟩⟩⟩, hk.1.1.2⟩)) hg hat)
                      have n4_ := Aside0.mk (Kd.R_after (ok := (fun k_ => some k_ ≠ (.slice (some ⟨go13, 0, none⟩) x8_1.length co8 : Value).ownBlock ∧ some k_ ≠ (.slice (some ⟨go14, 0, none⟩) x9_1.length co18 : Value).ownBlock ∧ some k_ ≠ (.slice Ao22 x12_1.length co22 : Value).ownBlock ∧ some k_ ≠ (v320 : Value).ownBlock)) (by (with_reducible repeat (first | apply Kd.R_alloc | apply Kd.R_drewN | apply Kd.R_drew)); exact Kd.R_mono HO314.out (fun _ hk => ⟨⟨hk.1.1.1.1.2, ⟨hk.1.1.1.2, ⟨hk.1.2, hk.2⟩⟩⟩, hk.1.1.2⟩)) hg hat)
                      have n5_ := Aside0.mk (hb)
                      have n6_ := Aside0.mk (ho)
                      clear HO_8
                      clear HO_9
                      clear HO_12
                      clear HO321
                      clear HO314
                      clear HB
                      clear HO_11
                      have HO_8 := n0_
                      have HO_9 := n1_
                      have HO_12 := n2_
                      have HO321 := n3_
                      have HO314 := n4_
                      have HB := n5_
                      have HO317 := n6_
                      clear n0_ n1_ n2_ n3_ n4_ n5_ n6_
                      clear ho hb hg hat
                      refine hK.out _ _ ⟨HS0_, HS1_⟩ (fun hHeld => ?_)
                      clear hK K
                      refine norm_ (a' := ?_) ?_ ?_
                      rotate_left
                      · show Act.put _ (some 66) _ = _
                        simp only [Act.put, List.setIfInBounds_toArray, List.set_cons_zero, List.set_cons_succ, i64_w, i32_w]
                        rfl
                      exact norm_ (by simp only [putAll, Act.put, List.setIfInBounds_toArray, List.set_cons_zero, List.set_cons_succ]) (hCont (.slice Ao30 y312.length co30, v316, v320) _ ⟨hHeld, (by (with_reducible repeat (first | apply Kd.R_alloc | apply Kd.R_drewN | apply Kd.R_drew)); exact Kd.R_mono HO314.out (fun _ hk => ⟨hk.2, ⟨hk.1.2.2.2, ⟨hk.1.2.2.1, ⟨hk.1.1, hk.1.2.1⟩⟩⟩⟩)), (by (with_reducible repeat (first | apply Kd.R_alloc | apply Kd.R_drewN | apply Kd.R_drew)); exact Kd.R_mono HO317.out (fun _ hk => ⟨hk.2.2.2.2, ⟨hk.2.2.2.1, ⟨hk.2.2.1, ⟨hk.1, hk.2.1⟩⟩⟩⟩)), (by (with_reducible repeat (first | apply Kd.R_alloc | apply Kd.R_drewN | apply Kd.R_drew)); exact Kd.R_mono HO321.out (fun _ hk => ⟨hk.1.2.2.2, ⟨hk.2, ⟨hk.1.2.2.1, ⟨hk.1.1, hk.1.2.1⟩⟩⟩⟩)), (by (with_reducible repeat (first | apply Kd.R_alloc | apply Kd.R_drewN | apply Kd.R_drew)); exact Kd.R_mono HO_12.out (fun _ hk => ⟨hk.1.2.2.2, ⟨hk.2, ⟨hk.1.2.2.1, ⟨hk.1.1, hk.1.2.1⟩⟩⟩⟩)), (by (with_reducible repeat (first | apply Kd.R_alloc | apply Kd.R_drewN | apply Kd.R_drew)); exact Kd.R_mono HO_8.out (fun _ hk => ⟨hk.1.2.2.2, ⟨hk.2, ⟨hk.1.2.2.1, ⟨hk.1.2.1, hk.1.1⟩⟩⟩⟩)), (by (with_reducible repeat (first | apply Kd.R_alloc | apply Kd.R_drewN | apply Kd.R_drew)); exact Kd.R_mono HO_9.out (fun _ hk => ⟨hk.1.2.2.2, ⟨hk.2, ⟨hk.1.2.2.1, ⟨hk.1.2.1, hk.1.1⟩⟩⟩⟩)), (by repeat (first | (with_reducible first | exact HB.out | apply below_alloc | apply pw_below_drewN | apply below_drew1) | exact HB.out))⟩)
                  rintro ⟨v313, v316, v320⟩ w31 ⟨hS_, h0_, h1_, h2_, h3_, h4_, h5_, h6_⟩
                  have n0_ : Aside0 (Kd.R (Kd.int .i64) 3 w31 w.heap.size (fun k_ => some k_ ≠ (v316 : Value).ownBlock ∧ some k_ ≠ (v320 : Value).ownBlock ∧ some k_ ≠ (.slice Ao22 x12_1.length co22 : Value).ownBlock ∧ some k_ ≠ (.slice (some ⟨go13, 0, none⟩) x8_1.length co8 : Value).ownBlock ∧ some k_ ≠ (.slice (some ⟨go14, 0, none⟩) x9_1.length co18 : Value).ownBlock) v313 y312) := ⟨h0_⟩
                  have n1_ : Aside0 (Kd.R (Kd.int .i64) 3 w31 w.heap.size (fun k_ => some k_ ≠ (v313 : Value).ownBlock ∧ some k_ ≠ (v320 : Value).ownBlock ∧ some k_ ≠ (.slice Ao22 x12_1.length co22 : Value).ownBlock ∧ some k_ ≠ (.slice (some ⟨go13, 0, none⟩) x8_1.length co8 : Value).ownBlock ∧ some k_ ≠ (.slice (some ⟨go14, 0, none⟩) x9_1.length co18 : Value).ownBlock) v316 y315) := ⟨h1_⟩
                  have n2_ : Aside0 (Kd.R (Kd.int .i64) 3 w31 w.heap.size (fun k_ => some k_ ≠ (v313 : Value).ownBlock ∧ some k_ ≠ (v316 : Value).ownBlock ∧ some k_ ≠ (.slice Ao22 x12_1.length co22 : Value).ownBlock ∧ some k_ ≠ (.slice (some ⟨go13, 0, none⟩) x8_1.length co8 : Value).ownBlock ∧ some k_ ≠ (.slice (some ⟨go14, 0, none⟩) x9_1.length co18 : Value).ownBlock) v320 y319) := ⟨h2_⟩
                  have n3_ : Aside0 (Kd.R (Kd.int .i64) 3 w31 w.heap.size (fun k_ => some k_ ≠ (v313 : Value).ownBlock ∧ some k_ ≠ (v316 : Value).ownBlock ∧ some k_ ≠ (v320 : Value).ownBlock ∧ some k_ ≠ (.slice (some ⟨go13, 0, none⟩) x8_1.length co8 : Value).ownBlock ∧ some k_ ≠ (.slice (some ⟨go14, 0, none⟩) x9_1.length co18 : Value).ownBlock) (.slice Ao22 x12_1.length co22) x12_1) := ⟨h3_⟩
                  have n4_ : Aside0 (Kd.R (Kd.int .i64) 3 w31 w.heap.size (fun k_ => some k_ ≠ (v313 : Value).ownBlock ∧ some k_ ≠ (v316 : Value).ownBlock ∧ some k_ ≠ (v320 : Value).ownBlock ∧ some k_ ≠ (.slice Ao22 x12_1.length co22 : Value).ownBlock ∧ some k_ ≠ (.slice (some ⟨go14, 0, none⟩) x9_1.length co18 : Value).ownBlock) (.slice (some ⟨go13, 0, none⟩) x8_1.length co8) y309) := ⟨h4_⟩
                  have n5_ : Aside0 (Kd.R (Kd.int .i64) 3 w31 w.heap.size (fun k_ => some k_ ≠ (v313 : Value).ownBlock ∧ some k_ ≠ (v316 : Value).ownBlock ∧ some k_ ≠ (v320 : Value).ownBlock ∧ some k_ ≠ (.slice Ao22 x12_1.length co22 : Value).ownBlock ∧ some k_ ≠ (.slice (some ⟨go13, 0, none⟩) x8_1.length co8 : Value).ownBlock) (.slice (some ⟨go14, 0, none⟩) x9_1.length co18) y310) := ⟨h5_⟩
                  have n6_ : Aside0 (Below w.heap.size w w31) := ⟨h6_⟩
                  clear HO_8
                  clear HO_9
                  clear HO_11
                  clear HO_12
                  clear HB
                  clear h0_ h1_ h2_ h3_ h4_ h5_ h6_
                  have HO314 := n0_
                  have HO317 := n1_
                  have HO321 := n2_
                  have HO_12 := n3_
                  have HO_8 := n4_
                  have HO_9 := n5_
                  have HB := n6_
                  clear n0_ n1_ n2_ n3_ n4_ n5_ n6_
                  have hHeld : w31.cell? ⟨go13, (x36_1).toNat, none⟩ = some (.int .i64 (rd y309 x36_1)) ∧ w31.cell? ⟨go13, (x36_1).toNat, none⟩ = some (.int .i64 (rd y309 x36_1)) := hS_
                  obtain ⟨Ao33, co33, eo33⟩ := Kd.R_slice HO321.out
                  (first | subst eo33 | (injection eo33 with f1_ f2_ f3_; have f4_ := f1_.symm; have f5_ := f3_.symm; clear f1_ f2_ f3_; subst f4_; subst f5_))
                  refine norm_ (a' := ?_) ?_ ?_
                  rotate_left
                  · simp only [putAll, Act.put, List.setIfInBounds_toArray, List.set_cons_zero, List.set_cons_succ]
                    rfl
                  refine one_ (i := 23) (N := some 78) #[true, true, true, true, true, true, true, true, true, true, true, true, true, true, true, true, true, true, true, true, true, true, true, true, false, false] rfl rfl (one_of HT_.out (by kernel_rfl)) (by decide) (fun K hK => ?_)
                  refine Kd.R_append_rows_step (Kd.int .i64) (w0 := w) w.heap.size (by rfl) (.tmp 67) (.tmp 77) 22 3 (.int .i64 0) 8 rfl Try.underlying22 info3 rfl (by decide) (by omega) (.slice Ao22 x12_1.length co22) x12_1 y319 _ _ _ (fun k_ => some k_ ≠ (.slice (some ⟨go13, 0, none⟩) x8_1.length co8 : Value).ownBlock ∧ some k_ ≠ (.slice (some ⟨go14, 0, none⟩) x9_1.length co18 : Value).ownBlock ∧ some k_ ≠ (v313 : Value).ownBlock ∧ some k_ ≠ (v316 : Value).ownBlock ∧ some k_ ≠ (.slice Ao33 y319.length co33 : Value).ownBlock) (fun _ => False) rfl rfl ?aO ?aR (fun _ _ h => h) (fun _ h => h.elim) ?aF ?aB ?aS ?aL ?_
                  (case aR => repeat (first | exact (Kd.R_reads' HO321.out).2.2 | (with_reducible refine Kd.C_alloc ?_ _) | (with_reducible refine Kd.C_drewN ?_ _) | (with_reducible refine Kd.C_drew ?_)))
                  (case aB => exact (by repeat (first | (with_reducible first | exact HB.out | apply below_alloc | apply pw_below_drewN | apply below_drew1) | exact HB.out)))
                  (case aF => exact (fun k_ hk => ⟨Kd.fresh' (Kd.R_lt (by (with_reducible repeat (first | apply Kd.R_alloc | apply Kd.R_drewN | apply Kd.R_drew)); exact HO_8.out)) k_ hk, Kd.fresh' (Kd.R_lt (by (with_reducible repeat (first | apply Kd.R_alloc | apply Kd.R_drewN | apply Kd.R_drew)); exact HO_9.out)) k_ hk, Kd.fresh' (Kd.R_lt (by (with_reducible repeat (first | apply Kd.R_alloc | apply Kd.R_drewN | apply Kd.R_drew)); exact HO314.out)) k_ hk, Kd.fresh' (Kd.R_lt (by (with_reducible repeat (first | apply Kd.R_alloc | apply Kd.R_drewN | apply Kd.R_drew)); exact HO317.out)) k_ hk, Kd.fresh' (Kd.R_lt (by (with_reducible repeat (first | apply Kd.R_alloc | apply Kd.R_drewN | apply Kd.R_drew)); exact HO321.out)) k_ hk⟩))
                  (case aO => exact (by (with_reducible repeat (first | apply Kd.R_alloc | apply Kd.R_drewN | apply Kd.R_drew)); exact Kd.R_mono HO_12.out (fun _ hk => ⟨hk.2.2.2.1, ⟨hk.2.2.2.2, ⟨hk.1, ⟨hk.2.1, hk.2.2.1⟩⟩⟩⟩)))
                  (case aS => exact (below_size (by repeat (first | (with_reducible first | exact HB.out | apply below_alloc | apply pw_below_drewN | apply below_drew1) | exact HB.out))))
                  (case aL => have := LMc16.out; omega)
                  intro v323 w32 ho hb hg hat
                  (first | have HS0_ := cell_grown hg (hHeld.1) (by first | (rw [add_block]; exact (fun e_ => ((HO_12.out.1 _ e_.symm).2.2.2.1) rfl)) | (show some (Addr.add _ _).block ≠ _; rw [add_block]; exact (fun e_ => ((HO_12.out.1 _ e_.symm).2.2.2.1) rfl)) | exact (fun e_ => ((HO_12.out.1 _ e_.symm).2.2.2.1) rfl)) | have HS0_ := cell_grown hg (cell_unalloc (hHeld.1) (by first | (rw [add_block]; exact Kd.R_lt HO_8.out _ rfl) | (show (Addr.add _ _).block < _; rw [add_block]; exact Kd.R_lt HO_8.out _ rfl) | exact Kd.R_lt HO_8.out _ rfl)) (by first | (rw [add_block]; exact (fun e_ => ((HO_12.out.1 _ e_.symm).2.2.2.1) rfl)) | (show some (Addr.add _ _).block ≠ _; rw [add_block]; exact (fun e_ => ((HO_12.out.1 _ e_.symm).2.2.2.1) rfl)) | exact (fun e_ => ((HO_12.out.1 _ e_.symm).2.2.2.1) rfl)))
                  (first | have HS1_ := cell_grown hg (hHeld.2) (by first | (rw [add_block]; exact (fun e_ => ((HO_12.out.1 _ e_.symm).2.2.2.1) rfl)) | (show some (Addr.add _ _).block ≠ _; rw [add_block]; exact (fun e_ => ((HO_12.out.1 _ e_.symm).2.2.2.1) rfl)) | exact (fun e_ => ((HO_12.out.1 _ e_.symm).2.2.2.1) rfl)) | have HS1_ := cell_grown hg (cell_unalloc (hHeld.2) (by first | (rw [add_block]; exact Kd.R_lt HO_8.out _ rfl) | (show (Addr.add _ _).block < _; rw [add_block]; exact Kd.R_lt HO_8.out _ rfl) | exact Kd.R_lt HO_8.out _ rfl)) (by first | (rw [add_block]; exact (fun e_ => ((HO_12.out.1 _ e_.symm).2.2.2.1) rfl)) | (show some (Addr.add _ _).block ≠ _; rw [add_block]; exact (fun e_ => ((HO_12.out.1 _ e_.symm).2.2.2.1) rfl)) | exact (fun e_ => ((HO_12.out.1 _ e_.symm).2.2.2.1) rfl)))
                  rw [← Ny322.out] at ho
                  have n0_ := Aside0.mk (Kd.R_after (ok := (fun k_ => some k_ ≠ (.slice (some ⟨go14, 0, none⟩) x9_1.length co18 : Value).ownBlock ∧ some k_ ≠ (v313 : Value).ownBlock ∧ some k_ ≠ (v316 : Value).ownBlock ∧ some k_ ≠ (.slice Ao33 y319.length co33 : Value).ownBlock)) (by (with_reducible repeat (first | apply Kd.R_alloc | apply Kd.R_drewN | apply Kd.R_drew)); exact Kd.R_mono HO_8.out (fun _ hk => ⟨⟨hk.2.2.2.2, ⟨hk.1, ⟨hk.2.1, hk.2.2.1⟩⟩⟩, hk.2.2.2.1⟩)) hg hat)
                  have n1_ := Aside0.mk (Kd.R_after (ok := (fun k_ => some k_ ≠ (.slice (some ⟨go13, 0, none⟩) x8_1.length co8 : Value).ownBlock ∧ some k_ ≠ (v313 : Value).ownBlock ∧ some k_ ≠ (v316 : Value).ownBlock ∧ some k_ ≠ (.slice Ao33 y319.length co33 : Value).ownBlock)) (by (with_reducible repeat (first | apply Kd.R_alloc | apply Kd.R_drewN | apply Kd.R_drew)); exact Kd.R_mono HO_9.out (fun _ hk => ⟨⟨hk.2.2.2.2, ⟨hk.1, ⟨hk.2.1, hk.2.2.1⟩⟩⟩, hk.2.2.2.1⟩)) hg hat)
                  have n2_ := Aside0.mk (Kd.R_after (ok := (fun k_ => some k_ ≠ (.slice (some ⟨go13, 0, none⟩) x8_1.length co8 : Value).ownBlock ∧ some k_ ≠ (.slice (some ⟨go14, 0, none⟩) x9_1.length co18 : Value).ownBlock ∧ some k_ ≠ (v316 : Value).ownBlock ∧ some k_ ≠ (.slice Ao33 y319.length co33 : Value).ownBlock)) (by (with_reducible repeat (first | apply Kd.R_alloc | apply Kd.R_drewN | apply Kd.R_drew)); exact Kd.R_mono HO314.out (fun _ hk => ⟨⟨hk.2.2.2.1, ⟨hk.2.2.2.2, ⟨hk.1, hk.2.1⟩⟩⟩, hk.2.2.1⟩)) hg hat)
                  have n3_ := Aside0.mk (Kd.R_after (ok := (fun k_ => some k_ ≠ (.slice (some ⟨go13, 0, none⟩) x8_1.length co8 : Value).ownBlock ∧ some k_ ≠ (.slice (some ⟨go14, 0, none⟩) x9_1.length co18 : Value).ownBlock ∧ some k_ ≠ (v313 : Value).ownBlock ∧ some k_ ≠ (.slice Ao33 y319.length co33 : Value).ownBlock)) (by (with_reducible repeat (first | apply Kd.R_alloc | apply Kd.R_drewN | apply Kd.R_drew)); exact Kd.R_mono HO317.out (fun _ hk => ⟨⟨hk.2.2.2.1, ⟨hk.2.2.2.2, ⟨hk.1, hk.2.1⟩⟩⟩, hk.2.2.1⟩)) hg hat)
                  have n4_ := Aside0.mk (Kd.R_after (ok := (fun k_ => some k_ ≠ (.slice (some ⟨go13, 0, none⟩) x8_1.length co8 : Value).ownBlock ∧ some k_ ≠ (.slice (some ⟨go14, 0, none⟩) x9_1.length co18 : Value).ownBlock ∧ some k_ ≠ (v313 : Value).ownBlock ∧ some k_ ≠ (v316 : Value).ownBlock)) (by (with_reducible repeat (first | apply Kd.R_alloc | apply Kd.R_drewN | apply Kd.R_drew)); exact Kd.R_mono HO321.out (fun _ hk => ⟨⟨hk.2.2.2.1, ⟨hk.2.2.2.2, ⟨hk.1, hk.2.1⟩⟩⟩, hk.2.2.1⟩)) hg hat)
                  have n5_ := Aside0.mk (hb)
                  have n6_ := Aside0.mk (ho)
                  clear HO_8
                  clear HO_9
                  clear HO314
                  clear HO317
                  clear HO321
                  clear HB
                  clear HO_12
                  have HO_8 := n0_
                  have HO_9 := n1_
                  have HO314 := n2_
                  have HO317 := n3_
                  have HO321 := n4_
                  have HB := n5_
                  have HO324 := n6_
                  clear n0_ n1_ n2_ n3_ n4_ n5_ n6_
                  clear ho hb hg hat
                  refine hK.out _ _ ⟨HS0_, HS1_⟩ (fun hHeld => ?_)
                  clear hK K
                  refine norm_ (a' := ?_) ?_ ?_
                  rotate_left
                  · show Act.put _ (some 78) _ = _
                    simp only [Act.put, List.setIfInBounds_toArray, List.set_cons_zero, List.set_cons_succ, i64_w, i32_w]
                    rfl
                  refine pure_ (i := 24) (N := some 11) (v := ?_) (a' := ?_) #[true, true, true, true, true, true, true, true, true, true, true, true, true, true, true, true, true, true, true, true, true, true, true, true, true, false] rfl rfl (any_of HT_.out (by kernel_rfl)) (fun _ _ _ h => h) (Or.inl ⟨by rfl, ?_⟩) ?_ ?_
                  rotate_left
                  · intro w'
                    go_simp
                    with_reducible rfl
                  rotate_left
                  · simp only [Act.put, List.setIfInBounds_toArray, List.set_cons_zero, List.set_cons_succ, i64_w, i32_w]
                    rfl
                  refine pure_ (i := 25) (N := some 12) (v := ?_) (a' := ?_) #[true, true, true, true, true, true, true, true, true, true, true, true, true, true, true, true, true, true, true, true, true, true, true, true, true, true] rfl rfl (any_of HT_.out (by kernel_rfl)) (fun _ _ _ h => h) (Or.inl ⟨by rfl, ?_⟩) ?_ ?_
                  rotate_left
                  · intro w'
                    go_simp
                    with_reducible rfl
                  rotate_left
                  · simp only [Act.put, List.setIfInBounds_toArray, List.set_cons_zero, List.set_cons_succ, i64_w, i32_w]
                    rfl
                  refine done_ (done_of HT_.out (by kernel_rfl)) ?_
                  try go_wp2
                  (try simp only [← hl8_1])
                  go_roundg k1
                  case measure => have := HK1.out; omega
                  case rel => exact ⟨(y309), (y310), (y315), (y322), (wrap64 (x36_1 + 1)), (by first | rfl | (simp; done) | (simp [*]; done)), H', ⟨by have := HK1.out; omega⟩, ⟨by (try simp only [hl8_1]); (with_reducible repeat (first | apply Kd.R_alloc | apply Kd.R_drewN | apply Kd.R_drew)); exact Kd.R_mono HO_8.out (fun _ hk => ⟨hk.1.1, ⟨hk.1.2.2.1, hk.2⟩⟩)⟩, ⟨by (try simp only [hl8_1]); (with_reducible repeat (first | apply Kd.R_alloc | apply Kd.R_drewN | apply Kd.R_drew)); exact Kd.R_mono HO_9.out (fun _ hk => ⟨hk.1.1, ⟨hk.1.2.2.1, hk.2⟩⟩)⟩, ⟨by (try simp only [hl8_1]); (with_reducible repeat (first | apply Kd.R_alloc | apply Kd.R_drewN | apply Kd.R_drew)); exact Kd.R_mono HO317.out (fun _ hk => ⟨hk.1.1, ⟨hk.1.2.1, hk.2⟩⟩)⟩, ⟨by (try simp only [hl8_1]); (with_reducible repeat (first | apply Kd.R_alloc | apply Kd.R_drewN | apply Kd.R_drew)); exact Kd.R_mono HO324.out (fun _ hk => ⟨hk.1, ⟨hk.2.1, hk.2.2.2.1⟩⟩)⟩, ⟨by repeat (first | (with_reducible first | exact HB.out | apply below_alloc | apply pw_below_drewN | apply below_drew1) | exact HB.out)⟩⟩
                · rw [if_neg c16] at H
                  exact absurd H (by simp)
              · rw [if_neg c15] at H
                exact absurd H (by simp)
            · rw [if_neg c12] at H
              exact absurd H (by simp)
          · rw [if_neg c11] at H
            exact absurd H (by simp)
        · rw [if_neg c10] at H
          exact absurd H (by simp)
      · rw [if_neg c9] at H
        have c9b0 : decide (x36_1 < (t300.length : Int)) = false := decide_eq_false c9
        (try (have c9b0h := c9b0; simp only [hl8_1] at c9b0h))
        clear c9
        replace H := Option.bind_eq_some_iff.mp H
        obtain ⟨⟨t325, t326, t327⟩, A340, H⟩ := H
        replace H : ((normal_Gap.f k1 x11_1 x9_1).bind fun bt329 => ((normal_Gap.f k1 x8_1 x11_1).bind fun bt333 => ((normal_Gap.f k1 x8_1 x12_1).bind fun bt337 => ((shapesearchlaw13_spread.f k1 x8_1).bind fun t342 => (if t342 = true then (shapesearchlaw13_NormalScales.j1 k1 t327 bt329.2.2 bt333.2.2 bt337.2.2 t325 t326 bt329.1 bt329.2.1 bt333.1 bt333.2.1 bt337.1 bt337.2.1 2 1) else (shapesearchlaw13_NormalScales.j1 k1 t327 bt329.2.2 bt333.2.2 bt337.2.2 t325 t326 bt329.1 bt329.2.1 bt333.1 bt333.2.1 bt337.1 bt337.2.1 0 1)))))) = some r := H
        have A34 := Aside0.mk A340
        clear A340
        replace H := Option.bind_eq_some_iff.mp H
        obtain ⟨⟨t329, t330, t331⟩, A350, H⟩ := H
        replace H : ((normal_Gap.f k1 x8_1 x11_1).bind fun bt333 => ((normal_Gap.f k1 x8_1 x12_1).bind fun bt337 => ((shapesearchlaw13_spread.f k1 x8_1).bind fun t342 => (if t342 = true then (shapesearchlaw13_NormalScales.j1 k1 t327 t331 bt333.2.2 bt337.2.2 t325 t326 t329 t330 bt333.1 bt333.2.1 bt337.1 bt337.2.1 2 1) else (shapesearchlaw13_NormalScales.j1 k1 t327 t331 bt333.2.2 bt337.2.2 t325 t326 t329 t330 bt333.1 bt333.2.1 bt337.1 bt337.2.1 0 1))))) = some r := H
        have A35 := Aside0.mk A350
        clear A350
        replace H := Option.bind_eq_some_iff.mp H
        obtain ⟨⟨t333, t334, t335⟩, A360, H⟩ := H
        replace H : ((normal_Gap.f k1 x8_1 x12_1).bind fun bt337 => ((shapesearchlaw13_spread.f k1 x8_1).bind fun t342 => (if t342 = true then (shapesearchlaw13_NormalScales.j1 k1 t327 t331 t335 bt337.2.2 t325 t326 t329 t330 t333 t334 bt337.1 bt337.2.1 2 1) else (shapesearchlaw13_NormalScales.j1 k1 t327 t331 t335 bt337.2.2 t325 t326 t329 t330 t333 t334 bt337.1 bt337.2.1 0 1)))) = some r := H
        have A36 := Aside0.mk A360
        clear A360
        replace H := Option.bind_eq_some_iff.mp H
        obtain ⟨⟨t337, t338, t339⟩, A370, H⟩ := H
        replace H : ((shapesearchlaw13_spread.f k1 x8_1).bind fun t342 => (if t342 = true then (shapesearchlaw13_NormalScales.j1 k1 t327 t331 t335 t339 t325 t326 t329 t330 t333 t334 t337 t338 2 1) else (shapesearchlaw13_NormalScales.j1 k1 t327 t331 t335 t339 t325 t326 t329 t330 t333 t334 t337 t338 0 1))) = some r := H
        have A37 := Aside0.mk A370
        clear A370
        replace H := Option.bind_eq_some_iff.mp H
        obtain ⟨t342, A380, H⟩ := H
        replace H : (if t342 = true then (shapesearchlaw13_NormalScales.j1 k1 t327 t331 t335 t339 t325 t326 t329 t330 t333 t334 t337 t338 2 1) else (shapesearchlaw13_NormalScales.j1 k1 t327 t331 t335 t339 t325 t326 t329 t330 t333 t334 t337 t338 0 1)) = some r := H
        have A38 := Aside0.mk A380
        clear A380
        have HC39 := Aside0.mk H
        clear H
        obtain ⟨Ao40, co40, eo40⟩ := Kd.R_slice HO_9.out
        subst eo40
        go_upto_if 106 with (first | ((with_reducible refine gate_callee (f := 11) rfl ?_); refine goesL_ (some 83) rfl rfl Try.func11 (by kernel_rfl) rfl #[.slice Ao8 x8_1.length co8, .slice Ao40 x9_1.length co40] rfl (by (try simp only [List.map_toArray, List.map_cons, List.map_nil]); first | done | rfl | (simp only [List.length_drop, List.length_take]; rfl)) ?_; (with_reducible refine (normal_Gap.calls k1 _ _ x8_1 _ _ x9_1 t325 t326 t327 _ ?side1 ?side2 ?side3 ?side4 A34.out).mono ?_); (case side1 => repeat (first | exact (Kd.R_reads' HO_8.out).2.2 | (with_reducible refine Kd.C_alloc ?_ _) | (with_reducible refine Kd.C_drewN ?_ _) | (with_reducible refine Kd.C_drew ?_))); (case side2 => exact (Kd.R_reads' HO_8.out).2.1); (case side3 => repeat (first | exact (Kd.R_reads' HO_9.out).2.2 | (with_reducible refine Kd.C_alloc ?_ _) | (with_reducible refine Kd.C_drewN ?_ _) | (with_reducible refine Kd.C_drew ?_))); (case side4 => exact (Kd.R_reads' HO_9.out).2.1); rintro e w41 ⟨rfl, hb⟩; refine ⟨_, rfl, ?_⟩; have n0_ := Aside0.mk (Kd.R_below (by (with_reducible repeat (first | apply Kd.R_alloc | apply Kd.R_drewN | apply Kd.R_drew)); exact HO_8.out) hb); have n1_ := Aside0.mk (Kd.R_below (by (with_reducible repeat (first | apply Kd.R_alloc | apply Kd.R_drewN | apply Kd.R_drew)); exact HO_9.out) hb); have n2_ := Aside0.mk (Kd.R_below (by (with_reducible repeat (first | apply Kd.R_alloc | apply Kd.R_drewN | apply Kd.R_drew)); exact HO_11.out) hb); have n3_ := Aside0.mk (Kd.R_below (by (with_reducible repeat (first | apply Kd.R_alloc | apply Kd.R_drewN | apply Kd.R_drew)); exact HO_12.out) hb); have n4_ := Aside0.mk (below_step (by repeat (first | (with_reducible first | exact HB.out | apply below_alloc | apply pw_below_drewN | apply below_drew1) | exact HB.out)) hb); clear HO_8; clear HO_9; clear HO_11; clear HO_12; clear HB; have HO_8 := n0_; have HO_9 := n1_; have HO_11 := n2_; have HO_12 := n3_; have HB := n4_; clear n0_ n1_ n2_ n3_ n4_; (try clear hb); (try clear hb2); (try clear hk); (try clear hi)) | ((with_reducible refine gate_dst (N := 14) rfl ?_); refine box_event ?hg (N := 14) ?hd (cs := #[.int .i64 0, .int .i64 0]) (t := 29) ?hr ?_; (case hd => rfl); (case hg => rfl); (case hr => first | (go_simp; done) | (go_simp; rfl)); intro gb328 hg w42 hbox hb; have n0_ := Aside0.mk (Kd.R_below (by (with_reducible repeat (first | apply Kd.R_alloc | apply Kd.R_drewN | apply Kd.R_drew)); exact HO_8.out) hb); have n1_ := Aside0.mk (Kd.R_below (by (with_reducible repeat (first | apply Kd.R_alloc | apply Kd.R_drewN | apply Kd.R_drew)); exact HO_9.out) hb); have n2_ := Aside0.mk (Kd.R_below (by (with_reducible repeat (first | apply Kd.R_alloc | apply Kd.R_drewN | apply Kd.R_drew)); exact HO_11.out) hb); have n3_ := Aside0.mk (Kd.R_below (by (with_reducible repeat (first | apply Kd.R_alloc | apply Kd.R_drewN | apply Kd.R_drew)); exact HO_12.out) hb); have n4_ := Aside0.mk (below_step (by repeat (first | (with_reducible first | exact HB.out | apply below_alloc | apply pw_below_drewN | apply below_drew1) | exact HB.out)) hb); have n5_ := Aside0.mk (hbox); have n6_ := Aside0.mk ((by rw [hg]; exact (below_size (by repeat (first | (with_reducible first | exact HB.out | apply below_alloc | apply pw_below_drewN | apply below_drew1) | exact HB.out))) : w.heap.size ≤ gb328)); have n7_ := Aside0.mk ((by rw [hg]; exact (below_size (by repeat (first | (with_reducible first | exact HB.out | apply below_alloc | apply pw_below_drewN | apply below_drew1) | exact HB.out))) : w.heap.size ≤ gb328)); clear HO_8; clear HO_9; clear HO_11; clear HO_12; clear HB; have HO_8 := n0_; have HO_9 := n1_; have HO_11 := n2_; have HO_12 := n3_; have HB := n4_; have BK328 := n5_; have GW328 := n6_; have GE328 := n7_; clear n0_ n1_ n2_ n3_ n4_ n5_ n6_ n7_; clear hb hbox hg; have hcz43_0 : w42.cell? ⟨gb328, 0, none⟩ = some (.int .i64 0) := (blk_cell BK328.out 0).trans rfl; have hcz43_1 : w42.cell? ⟨gb328, 1, none⟩ = some (.int .i64 0) := (blk_cell BK328.out 1).trans rfl; have hfz43_0 := blk_frozen BK328.out 0; have hfz43_1 := blk_frozen BK328.out 1; obtain ⟨Ao44, co44, eo44⟩ := Kd.R_slice HO_11.out; subst eo44) | ((with_reducible refine gate_callee (f := 11) rfl ?_); refine goesL_ (some 89) rfl rfl Try.func11 (by kernel_rfl) rfl #[.slice Ao44 x11_1.length co44, .slice Ao40 x9_1.length co40] rfl (by (try simp only [List.map_toArray, List.map_cons, List.map_nil]); first | done | rfl | (simp only [List.length_drop, List.length_take]; rfl)) ?_; (with_reducible refine (normal_Gap.calls k1 _ _ x11_1 _ _ x9_1 t329 t330 t331 _ ?side1 ?side2 ?side3 ?side4 A35.out).mono ?_); (case side1 => refine (Kd.R_reads' (e := 3) (base := w.heap.size) (ok := fun k_ => (some k_ ≠ (.slice Ao8 x8_1.length co8 : Value).ownBlock ∧ (some k_ ≠ (.slice Ao40 x9_1.length co40 : Value).ownBlock ∧ some k_ ≠ (u12 : Value).ownBlock))) (n := x11_1.length) (c := co44) ?_).2.2; exact (by (with_reducible repeat (first | apply Kd.R_alloc | apply Kd.R_drewN | apply Kd.R_drew)); exact (Kd.R_mono (Kd.R_far (p := ⟨gb328, 1, none⟩) (Kd.R_far (p := ⟨gb328, 0, none⟩) (Kd.R_types HO_11.out BK328.out (by decide)) (fun _ hk => hk.2) (.int .i64 t325)) (fun _ hk => hk.2) (.int .i64 t326)) (fun _ h_ => h_.1)))); (case side2 => exact (Kd.R_reads' HO_11.out).2.1); (case side3 => refine (Kd.R_reads' (e := 3) (base := w.heap.size) (ok := fun k_ => (some k_ ≠ (.slice Ao8 x8_1.length co8 : Value).ownBlock ∧ (some k_ ≠ (.slice Ao44 x11_1.length co44 : Value).ownBlock ∧ some k_ ≠ (u12 : Value).ownBlock))) (n := x9_1.length) (c := co40) ?_).2.2; exact (by (with_reducible repeat (first | apply Kd.R_alloc | apply Kd.R_drewN | apply Kd.R_drew)); exact (Kd.R_mono (Kd.R_far (p := ⟨gb328, 1, none⟩) (Kd.R_far (p := ⟨gb328, 0, none⟩) (Kd.R_types HO_9.out BK328.out (by decide)) (fun _ hk => hk.2) (.int .i64 t325)) (fun _ hk => hk.2) (.int .i64 t326)) (fun _ h_ => h_.1)))); (case side4 => exact (Kd.R_reads' HO_9.out).2.1); rintro e w45 ⟨rfl, hb⟩; refine ⟨_, rfl, ?_⟩; have n0_ := Aside0.mk (Kd.R_below (by (with_reducible repeat (first | apply Kd.R_alloc | apply Kd.R_drewN | apply Kd.R_drew)); exact (Kd.R_mono (Kd.R_far (p := ⟨gb328, 1, none⟩) (Kd.R_far (p := ⟨gb328, 0, none⟩) (Kd.R_types HO_8.out BK328.out (by decide)) (fun _ hk => hk.2) (.int .i64 t325)) (fun _ hk => hk.2) (.int .i64 t326)) (fun _ h_ => h_.1))) hb); have n1_ := Aside0.mk (Kd.R_below (by (with_reducible repeat (first | apply Kd.R_alloc | apply Kd.R_drewN | apply Kd.R_drew)); exact (Kd.R_mono (Kd.R_far (p := ⟨gb328, 1, none⟩) (Kd.R_far (p := ⟨gb328, 0, none⟩) (Kd.R_types HO_9.out BK328.out (by decide)) (fun _ hk => hk.2) (.int .i64 t325)) (fun _ hk => hk.2) (.int .i64 t326)) (fun _ h_ => h_.1))) hb); have n2_ := Aside0.mk (Kd.R_below (by (with_reducible repeat (first | apply Kd.R_alloc | apply Kd.R_drewN | apply Kd.R_drew)); exact (Kd.R_mono (Kd.R_far (p := ⟨gb328, 1, none⟩) (Kd.R_far (p := ⟨gb328, 0, none⟩) (Kd.R_types HO_11.out BK328.out (by decide)) (fun _ hk => hk.2) (.int .i64 t325)) (fun _ hk => hk.2) (.int .i64 t326)) (fun _ h_ => h_.1))) hb); have n3_ := Aside0.mk (Kd.R_below (by (with_reducible repeat (first | apply Kd.R_alloc | apply Kd.R_drewN | apply Kd.R_drew)); exact (Kd.R_mono (Kd.R_far (p := ⟨gb328, 1, none⟩) (Kd.R_far (p := ⟨gb328, 0, none⟩) (Kd.R_types HO_12.out BK328.out (by decide)) (fun _ hk => hk.2) (.int .i64 t325)) (fun _ hk => hk.2) (.int .i64 t326)) (fun _ h_ => h_.1))) hb); have n4_ := Aside0.mk (blk_below (g := gb328) (o := .cells #[.int .i64 t325, .int .i64 t326] 29 (0, 0)) (by (with_reducible repeat (first | refine blk_drewN ?_ _ | refine blk_drew ?_ | refine blk_alloc ?_ _)); refine blk_put (cs := #[.int .i64 t325, .int .i64 0]) ?_ 1 _ rfl; (with_reducible repeat (first | refine blk_drewN ?_ _ | refine blk_drew ?_ | refine blk_alloc ?_ _)); refine blk_put (cs := #[.int .i64 0, .int .i64 0]) ?_ 0 _ rfl; (with_reducible repeat (first | refine blk_drewN ?_ _ | refine blk_drew ?_ | refine blk_alloc ?_ _)); exact BK328.out) hb); have n5_ := Aside0.mk (below_step (by repeat (first | (with_reducible first | exact HB.out | apply below_alloc | apply pw_below_drewN | apply below_drew1 | refine below_set ?_ GE328.out) | exact HB.out)) hb); clear HO_8; clear HO_9; clear HO_11; clear HO_12; clear BK328; clear HB; have HO_8 := n0_; have HO_9 := n1_; have HO_11 := n2_; have HO_12 := n3_; have BK328 := n4_; have HB := n5_; clear n0_ n1_ n2_ n3_ n4_ n5_; (try clear hb); (try clear hb2); (try clear hk); (try clear hi)) | ((with_reducible refine gate_dst (N := 16) rfl ?_); refine box_event ?hg (N := 16) ?hd (cs := #[.int .i64 0, .int .i64 0]) (t := 29) ?hr ?_; (case hd => rfl); (case hg => rfl); (case hr => first | (go_simp; done) | (go_simp; rfl)); intro gb332 hg w46 hbox hb; have n0_ := Aside0.mk (Kd.R_below (by (with_reducible repeat (first | apply Kd.R_alloc | apply Kd.R_drewN | apply Kd.R_drew)); exact HO_8.out) hb); have n1_ := Aside0.mk (Kd.R_below (by (with_reducible repeat (first | apply Kd.R_alloc | apply Kd.R_drewN | apply Kd.R_drew)); exact HO_9.out) hb); have n2_ := Aside0.mk (Kd.R_below (by (with_reducible repeat (first | apply Kd.R_alloc | apply Kd.R_drewN | apply Kd.R_drew)); exact HO_11.out) hb); have n3_ := Aside0.mk (Kd.R_below (by (with_reducible repeat (first | apply Kd.R_alloc | apply Kd.R_drewN | apply Kd.R_drew)); exact HO_12.out) hb); have n4_ := Aside0.mk (blk_below (g := gb328) (o := .cells #[.int .i64 t325, .int .i64 t326] 29 (0, 0)) (by (with_reducible repeat (first | refine blk_drewN ?_ _ | refine blk_drew ?_ | refine blk_alloc ?_ _)); exact BK328.out) hb); have n5_ := Aside0.mk (below_step (by repeat (first | (with_reducible first | exact HB.out | apply below_alloc | apply pw_below_drewN | apply below_drew1 | refine below_set ?_ GE328.out) | exact HB.out)) hb); have n6_ := Aside0.mk (hbox); have n7_ := Aside0.mk ((by rw [hg]; exact (below_size (by repeat (first | (with_reducible first | exact HB.out | apply below_alloc | apply pw_below_drewN | apply below_drew1 | refine below_set ?_ GE328.out) | exact HB.out))) : w.heap.size ≤ gb332)); have n8_ := Aside0.mk ((by rw [hg]; exact (below_size (by repeat (first | (with_reducible first | exact HB.out | apply below_alloc | apply pw_below_drewN | apply below_drew1 | refine below_set ?_ GE328.out) | exact HB.out))) : w.heap.size ≤ gb332)); have n9_ := Aside0.mk ((by rw [hg]; exact Nat.ne_of_lt (blk_lt (g := gb328) (o := .cells #[.int .i64 t325, .int .i64 t326] 29 (0, 0)) (by (with_reducible repeat (first | refine blk_drewN ?_ _ | refine blk_drew ?_ | refine blk_alloc ?_ _)); exact BK328.out)) : gb328 ≠ gb332)); have n10_ := Aside0.mk ((by rw [hg]; exact Nat.ne_of_gt (blk_lt (g := gb328) (o := .cells #[.int .i64 t325, .int .i64 t326] 29 (0, 0)) (by (with_reducible repeat (first | refine blk_drewN ?_ _ | refine blk_drew ?_ | refine blk_alloc ?_ _)); exact BK328.out)) : gb332 ≠ gb328)); clear HO_8; clear HO_9; clear HO_11; clear HO_12; clear BK328; clear HB; have HO_8 := n0_; have HO_9 := n1_; have HO_11 := n2_; have HO_12 := n3_; have BK328 := n4_; have HB := n5_; have BK332 := n6_; have GW332 := n7_; have GE332 := n8_; have NB328_332 := n9_; have NB332_328 := n10_; clear n0_ n1_ n2_ n3_ n4_ n5_ n6_ n7_ n8_ n9_ n10_; clear hb hbox hg; have hnb47 := NB332_328.out; have hnc47 := NB328_332.out; have hcz48_0 : w46.cell? ⟨gb332, 0, none⟩ = some (.int .i64 0) := (blk_cell BK332.out 0).trans rfl; have hcz48_1 : w46.cell? ⟨gb332, 1, none⟩ = some (.int .i64 0) := (blk_cell BK332.out 1).trans rfl; have hfz48_0 := blk_frozen BK332.out 0; have hfz48_1 := blk_frozen BK332.out 1) | ((with_reducible refine gate_callee (f := 11) rfl ?_); refine goesL_ (some 95) rfl rfl Try.func11 (by kernel_rfl) rfl #[.slice Ao8 x8_1.length co8, .slice Ao44 x11_1.length co44] rfl (by (try simp only [List.map_toArray, List.map_cons, List.map_nil]); first | done | rfl | (simp only [List.length_drop, List.length_take]; rfl)) ?_; (with_reducible refine (normal_Gap.calls k1 _ _ x8_1 _ _ x11_1 t333 t334 t335 _ ?side1 ?side2 ?side3 ?side4 A36.out).mono ?_); (case side1 => refine (Kd.R_reads' (e := 3) (base := w.heap.size) (ok := fun k_ => (some k_ ≠ (.slice Ao40 x9_1.length co40 : Value).ownBlock ∧ (some k_ ≠ (.slice Ao44 x11_1.length co44 : Value).ownBlock ∧ some k_ ≠ (u12 : Value).ownBlock))) (n := x8_1.length) (c := co8) ?_).2.2; exact (by (with_reducible repeat (first | apply Kd.R_alloc | apply Kd.R_drewN | apply Kd.R_drew)); exact (Kd.R_mono (Kd.R_far (p := ⟨gb332, 1, none⟩) (Kd.R_far (p := ⟨gb332, 0, none⟩) (Kd.R_types HO_8.out BK332.out (by decide)) (fun _ hk => hk.2) (.int .i64 t329)) (fun _ hk => hk.2) (.int .i64 t330)) (fun _ h_ => h_.1)))); (case side2 => exact (Kd.R_reads' HO_8.out).2.1); (case side3 => refine (Kd.R_reads' (e := 3) (base := w.heap.size) (ok := fun k_ => (some k_ ≠ (.slice Ao8 x8_1.length co8 : Value).ownBlock ∧ (some k_ ≠ (.slice Ao40 x9_1.length co40 : Value).ownBlock ∧ some k_ ≠ (u12 : Value).ownBlock))) (n := x11_1.length) (c := co44) ?_).2.2; exact (by (with_reducible repeat (first | apply Kd.R_alloc | apply Kd.R_drewN | apply Kd.R_drew)); exact (Kd.R_mono (Kd.R_far (p := ⟨gb332, 1, none⟩) (Kd.R_far (p := ⟨gb332, 0, none⟩) (Kd.R_types HO_11.out BK332.out (by decide)) (fun _ hk => hk.2) (.int .i64 t329)) (fun _ hk => hk.2) (.int .i64 t330)) (fun _ h_ => h_.1)))); (case side4 => exact (Kd.R_reads' HO_11.out).2.1); rintro e w49 ⟨rfl, hb⟩; refine ⟨_, rfl, ?_⟩; have n0_ := Aside0.mk (Kd.R_below (by (with_reducible repeat (first | apply Kd.R_alloc | apply Kd.R_drewN | apply Kd.R_drew)); exact (Kd.R_mono (Kd.R_far (p := ⟨gb332, 1, none⟩) (Kd.R_far (p := ⟨gb332, 0, none⟩) (Kd.R_types HO_8.out BK332.out (by decide)) (fun _ hk => hk.2) (.int .i64 t329)) (fun _ hk => hk.2) (.int .i64 t330)) (fun _ h_ => h_.1))) hb); have n1_ := Aside0.mk (Kd.R_below (by (with_reducible repeat (first | apply Kd.R_alloc | apply Kd.R_drewN | apply Kd.R_drew)); exact (Kd.R_mono (Kd.R_far (p := ⟨gb332, 1, none⟩) (Kd.R_far (p := ⟨gb332, 0, none⟩) (Kd.R_types HO_9.out BK332.out (by decide)) (fun _ hk => hk.2) (.int .i64 t329)) (fun _ hk => hk.2) (.int .i64 t330)) (fun _ h_ => h_.1))) hb); have n2_ := Aside0.mk (Kd.R_below (by (with_reducible repeat (first | apply Kd.R_alloc | apply Kd.R_drewN | apply Kd.R_drew)); exact (Kd.R_mono (Kd.R_far (p := ⟨gb332, 1, none⟩) (Kd.R_far (p := ⟨gb332, 0, none⟩) (Kd.R_types HO_11.out BK332.out (by decide)) (fun _ hk => hk.2) (.int .i64 t329)) (fun _ hk => hk.2) (.int .i64 t330)) (fun _ h_ => h_.1))) hb); have n3_ := Aside0.mk (Kd.R_below (by (with_reducible repeat (first | apply Kd.R_alloc | apply Kd.R_drewN | apply Kd.R_drew)); exact (Kd.R_mono (Kd.R_far (p := ⟨gb332, 1, none⟩) (Kd.R_far (p := ⟨gb332, 0, none⟩) (Kd.R_types HO_12.out BK332.out (by decide)) (fun _ hk => hk.2) (.int .i64 t329)) (fun _ hk => hk.2) (.int .i64 t330)) (fun _ h_ => h_.1))) hb); have n4_ := Aside0.mk (blk_below (g := gb328) (o := .cells #[.int .i64 t325, .int .i64 t326] 29 (0, 0)) (by (with_reducible repeat (first | refine blk_drewN ?_ _ | refine blk_drew ?_ | refine blk_alloc ?_ _)); refine blk_far ?_ NB328_332.out _; (with_reducible repeat (first | refine blk_drewN ?_ _ | refine blk_drew ?_ | refine blk_alloc ?_ _)); refine blk_far ?_ NB328_332.out _; (with_reducible repeat (first | refine blk_drewN ?_ _ | refine blk_drew ?_ | refine blk_alloc ?_ _)); exact BK328.out) hb); have n5_ := Aside0.mk (blk_below (g := gb332) (o := .cells #[.int .i64 t329, .int .i64 t330] 29 (0, 0)) (by (with_reducible repeat (first | refine blk_drewN ?_ _ | refine blk_drew ?_ | refine blk_alloc ?_ _)); refine blk_put (cs := #[.int .i64 t329, .int .i64 0]) ?_ 1 _ rfl; (with_reducible repeat (first | refine blk_drewN ?_ _ | refine blk_drew ?_ | refine blk_alloc ?_ _)); refine blk_put (cs := #[.int .i64 0, .int .i64 0]) ?_ 0 _ rfl; (with_reducible repeat (first | refine blk_drewN ?_ _ | refine blk_drew ?_ | refine blk_alloc ?_ _)); exact BK332.out) hb); have n6_ := Aside0.mk (below_step (by repeat (first | (with_reducible first | exact HB.out | apply below_alloc | apply pw_below_drewN | apply below_drew1 | refine below_set ?_ GE328.out | refine below_set ?_ GE332.out) | exact HB.out)) hb); clear HO_8; clear HO_9; clear HO_11; clear HO_12; clear BK328; clear BK332; clear HB; have HO_8 := n0_; have HO_9 := n1_; have HO_11 := n2_; have HO_12 := n3_; have BK328 := n4_; have BK332 := n5_; have HB := n6_; clear n0_ n1_ n2_ n3_ n4_ n5_ n6_; (try clear hb); (try clear hb2); (try clear hk); (try clear hi)) | ((with_reducible refine gate_dst (N := 18) rfl ?_); refine box_event ?hg (N := 18) ?hd (cs := #[.int .i64 0, .int .i64 0]) (t := 29) ?hr ?_; (case hd => rfl); (case hg => rfl); (case hr => first | (go_simp; done) | (go_simp; rfl)); intro gb336 hg w50 hbox hb; have n0_ := Aside0.mk (Kd.R_below (by (with_reducible repeat (first | apply Kd.R_alloc | apply Kd.R_drewN | apply Kd.R_drew)); exact HO_8.out) hb); have n1_ := Aside0.mk (Kd.R_below (by (with_reducible repeat (first | apply Kd.R_alloc | apply Kd.R_drewN | apply Kd.R_drew)); exact HO_9.out) hb); have n2_ := Aside0.mk (Kd.R_below (by (with_reducible repeat (first | apply Kd.R_alloc | apply Kd.R_drewN | apply Kd.R_drew)); exact HO_11.out) hb); have n3_ := Aside0.mk (Kd.R_below (by (with_reducible repeat (first | apply Kd.R_alloc | apply Kd.R_drewN | apply Kd.R_drew)); exact HO_12.out) hb); have n4_ := Aside0.mk (blk_below (g := gb328) (o := .cells #[.int .i64 t325, .int .i64 t326] 29 (0, 0)) (by (with_reducible repeat (first | refine blk_drewN ?_ _ | refine blk_drew ?_ | refine blk_alloc ?_ _)); exact BK328.out) hb); have n5_ := Aside0.mk (blk_below (g := gb332) (o := .cells #[.int .i64 t329, .int .i64 t330] 29 (0, 0)) (by (with_reducible repeat (first | refine blk_drewN ?_ _ | refine blk_drew ?_ | refine blk_alloc ?_ _)); exact BK332.out) hb); have n6_ := Aside0.mk (below_step (by repeat (first | (with_reducible first | exact HB.out | apply below_alloc | apply pw_below_drewN | apply below_drew1 | refine below_set ?_ GE328.out | refine below_set ?_ GE332.out) | exact HB.out)) hb); have n7_ := Aside0.mk (hbox); have n8_ := Aside0.mk ((by rw [hg]; exact (below_size (by repeat (first | (with_reducible first | exact HB.out | apply below_alloc | apply pw_below_drewN | apply below_drew1 | refine below_set ?_ GE328.out | refine below_set ?_ GE332.out) | exact HB.out))) : w.heap.size ≤ gb336)); have n9_ := Aside0.mk ((by rw [hg]; exact (below_size (by repeat (first | (with_reducible first | exact HB.out | apply below_alloc | apply pw_below_drewN | apply below_drew1 | refine below_set ?_ GE328.out | refine below_set ?_ GE332.out) | exact HB.out))) : w.heap.size ≤ gb336)); have n10_ := Aside0.mk ((by rw [hg]; exact Nat.ne_of_lt (blk_lt (g := gb328) (o := .cells #[.int .i64 t325, .int .i64 t326] 29 (0, 0)) (by (with_reducible repeat (first | refine blk_drewN ?_ _ | refine blk_drew ?_ | refine blk_alloc ?_ _)); exact BK328.out)) : gb328 ≠ gb336)); have n11_ := Aside0.mk ((by rw [hg]; exact Nat.ne_of_gt (blk_lt (g := gb328) (o := .cells #[.int .i64 t325, .int .i64 t326] 29 (0, 0)) (by (with_reducible repeat (first | refine blk_drewN ?_ _ | refine blk_drew ?_ | refine blk_alloc ?_ _)); exact BK328.out)) : gb336 ≠ gb328)); have n12_ := Aside0.mk ((by rw [hg]; exact Nat.ne_of_lt (blk_lt (g := gb332) (o := .cells #[.int .i64 t329, .int .i64 t330] 29 (0, 0)) (by (with_reducible repeat (first | refine blk_drewN ?_ _ | refine blk_drew ?_ | refine blk_alloc ?_ _)); exact BK332.out)) : gb332 ≠ gb336)); have n13_ := Aside0.mk ((by rw [hg]; exact Nat.ne_of_gt (blk_lt (g := gb332) (o := .cells #[.int .i64 t329, .int .i64 t330] 29 (0, 0)) (by (with_reducible repeat (first | refine blk_drewN ?_ _ | refine blk_drew ?_ | refine blk_alloc ?_ _)); exact BK332.out)) : gb336 ≠ gb332)); clear HO_8; clear HO_9; clear HO_11; clear HO_12; clear BK328; clear BK332; clear HB; have HO_8 := n0_; have HO_9 := n1_; have HO_11 := n2_; have HO_12 := n3_; have BK328 := n4_; have BK332 := n5_; have HB := n6_; have BK336 := n7_; have GW336 := n8_; have GE336 := n9_; have NB328_336 := n10_; have NB336_328 := n11_; have NB332_336 := n12_; have NB336_332 := n13_; clear n0_ n1_ n2_ n3_ n4_ n5_ n6_ n7_ n8_ n9_ n10_ n11_ n12_ n13_; clear hb hbox hg; have hnb51 := NB336_328.out; have hnc51 := NB328_336.out; have hnb52 := NB336_332.out; have hnc52 := NB332_336.out; have hcz53_0 : w50.cell? ⟨gb336, 0, none⟩ = some (.int .i64 0) := (blk_cell BK336.out 0).trans rfl; have hcz53_1 : w50.cell? ⟨gb336, 1, none⟩ = some (.int .i64 0) := (blk_cell BK336.out 1).trans rfl; have hfz53_0 := blk_frozen BK336.out 0; have hfz53_1 := blk_frozen BK336.out 1; obtain ⟨Ao54, co54, eo54⟩ := Kd.R_slice HO_12.out; subst eo54) | ((with_reducible refine gate_callee (f := 11) rfl ?_); refine goesL_ (some 101) rfl rfl Try.func11 (by kernel_rfl) rfl #[.slice Ao8 x8_1.length co8, .slice Ao54 x12_1.length co54] rfl (by (try simp only [List.map_toArray, List.map_cons, List.map_nil]); first | done | rfl | (simp only [List.length_drop, List.length_take]; rfl)) ?_; (with_reducible refine (normal_Gap.calls k1 _ _ x8_1 _ _ x12_1 t337 t338 t339 _ ?side1 ?side2 ?side3 ?side4 A37.out).mono ?_); (case side1 => refine (Kd.R_reads' (e := 3) (base := w.heap.size) (ok := fun k_ => (some k_ ≠ (.slice Ao40 x9_1.length co40 : Value).ownBlock ∧ (some k_ ≠ (.slice Ao44 x11_1.length co44 : Value).ownBlock ∧ some k_ ≠ (.slice Ao54 x12_1.length co54 : Value).ownBlock))) (n := x8_1.length) (c := co8) ?_).2.2; exact (by (with_reducible repeat (first | apply Kd.R_alloc | apply Kd.R_drewN | apply Kd.R_drew)); exact (Kd.R_mono (Kd.R_far (p := ⟨gb336, 1, none⟩) (Kd.R_far (p := ⟨gb336, 0, none⟩) (Kd.R_types HO_8.out BK336.out (by decide)) (fun _ hk => hk.2) (.int .i64 t333)) (fun _ hk => hk.2) (.int .i64 t334)) (fun _ h_ => h_.1)))); (case side2 => exact (Kd.R_reads' HO_8.out).2.1); (case side3 => refine (Kd.R_reads' (e := 3) (base := w.heap.size) (ok := fun k_ => (some k_ ≠ (.slice Ao8 x8_1.length co8 : Value).ownBlock ∧ (some k_ ≠ (.slice Ao40 x9_1.length co40 : Value).ownBlock ∧ some k_ ≠ (.slice Ao44 x11_1.length co44 : Value).ownBlock))) (n := x12_1.length) (c := co54) ?_).2.2; exact (by (with_reducible repeat (first | apply Kd.R_alloc | apply Kd.R_drewN | apply Kd.R_drew)); exact (Kd.R_mono (Kd.R_far (p := ⟨gb336, 1, none⟩) (Kd.R_far (p := ⟨gb336, 0, none⟩) (Kd.R_types HO_12.out BK336.out (by decide)) (fun _ hk => hk.2) (.int .i64 t333)) (fun _ hk => hk.2) (.int .i64 t334)) (fun _ h_ => h_.1)))); (case side4 => exact (Kd.R_reads' HO_12.out).2.1); rintro e w55 ⟨rfl, hb⟩; refine ⟨_, rfl, ?_⟩; have n0_ := Aside0.mk (Kd.R_below (by (with_reducible repeat (first | apply Kd.R_alloc | apply Kd.R_drewN | apply Kd.R_drew)); exact (Kd.R_mono (Kd.R_far (p := ⟨gb336, 1, none⟩) (Kd.R_far (p := ⟨gb336, 0, none⟩) (Kd.R_types HO_8.out BK336.out (by decide)) (fun _ hk => hk.2) (.int .i64 t333)) (fun _ hk => hk.2) (.int .i64 t334)) (fun _ h_ => h_.1))) hb); have n1_ := Aside0.mk (Kd.R_below (by (with_reducible repeat (first | apply Kd.R_alloc | apply Kd.R_drewN | apply Kd.R_drew)); exact (Kd.R_mono (Kd.R_far (p := ⟨gb336, 1, none⟩) (Kd.R_far (p := ⟨gb336, 0, none⟩) (Kd.R_types HO_9.out BK336.out (by decide)) (fun _ hk => hk.2) (.int .i64 t333)) (fun _ hk => hk.2) (.int .i64 t334)) (fun _ h_ => h_.1))) hb); have n2_ := Aside0.mk (Kd.R_below (by (with_reducible repeat (first | apply Kd.R_alloc | apply Kd.R_drewN | apply Kd.R_drew)); exact (Kd.R_mono (Kd.R_far (p := ⟨gb336, 1, none⟩) (Kd.R_far (p := ⟨gb336, 0, none⟩) (Kd.R_types HO_11.out BK336.out (by decide)) (fun _ hk => hk.2) (.int .i64 t333)) (fun _ hk => hk.2) (.int .i64 t334)) (fun _ h_ => h_.1))) hb); have n3_ := Aside0.mk (Kd.R_below (by (with_reducible repeat (first | apply Kd.R_alloc | apply Kd.R_drewN | apply Kd.R_drew)); exact (Kd.R_mono (Kd.R_far (p := ⟨gb336, 1, none⟩) (Kd.R_far (p := ⟨gb336, 0, none⟩) (Kd.R_types HO_12.out BK336.out (by decide)) (fun _ hk => hk.2) (.int .i64 t333)) (fun _ hk => hk.2) (.int .i64 t334)) (fun _ h_ => h_.1))) hb); have n4_ := Aside0.mk (blk_below (g := gb328) (o := .cells #[.int .i64 t325, .int .i64 t326] 29 (0, 0)) (by (with_reducible repeat (first | refine blk_drewN ?_ _ | refine blk_drew ?_ | refine blk_alloc ?_ _)); refine blk_far ?_ NB328_336.out _; (with_reducible repeat (first | refine blk_drewN ?_ _ | refine blk_drew ?_ | refine blk_alloc ?_ _)); refine blk_far ?_ NB328_336.out _; (with_reducible repeat (first | refine blk_drewN ?_ _ | refine blk_drew ?_ | refine blk_alloc ?_ _)); exact BK328.out) hb); have n5_ := Aside0.mk (blk_below (g := gb332) (o := .cells #[.int .i64 t329, .int .i64 t330] 29 (0, 0)) (by (with_reducible repeat (first | refine blk_drewN ?_ _ | refine blk_drew ?_ | refine blk_alloc ?_ _)); refine blk_far ?_ NB332_336.out _; (with_reducible repeat (first | refine blk_drewN ?_ _ | refine blk_drew ?_ | refine blk_alloc ?_ _)); refine blk_far ?_ NB332_336.out _; (with_reducible repeat (first | refine blk_drewN ?_ _ | refine blk_drew ?_ | refine blk_alloc ?_ _)); exact BK332.out) hb); have n6_ := Aside0.mk (blk_below (g := gb336) (o := .cells #[.int .i64 t333, .int .i64 t334] 29 (0, 0)) (by (with_reducible repeat (first | refine blk_drewN ?_ _ | refine blk_drew ?_ | refine blk_alloc ?_ _)); refine blk_put (cs := #[.int .i64 t333, .int .i64 0]) ?_ 1 _ rfl; (with_reducible repeat (first | refine blk_drewN ?_ _ | refine blk_drew ?_ | refine blk_alloc ?_ _)); refine blk_put (cs := #[.int .i64 0, .int .i64 0]) ?_ 0 _ rfl; (with_reducible repeat (first | refine blk_drewN ?_ _ | refine blk_drew ?_ | refine blk_alloc ?_ _)); exact BK336.out) hb); have n7_ := Aside0.mk (below_step (by repeat (first | (with_reducible first | exact HB.out | apply below_alloc | apply pw_below_drewN | apply below_drew1 | refine below_set ?_ GE328.out | refine below_set ?_ GE332.out | refine below_set ?_ GE336.out) | exact HB.out)) hb); clear HO_8; clear HO_9; clear HO_11; clear HO_12; clear BK328; clear BK332; clear BK336; clear HB; have HO_8 := n0_; have HO_9 := n1_; have HO_11 := n2_; have HO_12 := n3_; have BK328 := n4_; have BK332 := n5_; have BK336 := n6_; have HB := n7_; clear n0_ n1_ n2_ n3_ n4_ n5_ n6_ n7_; (try clear hb); (try clear hb2); (try clear hk); (try clear hi)) | ((with_reducible refine gate_dst (N := 20) rfl ?_); refine box_event ?hg (N := 20) ?hd (cs := #[.int .i64 0, .int .i64 0]) (t := 29) ?hr ?_; (case hd => rfl); (case hg => rfl); (case hr => first | (go_simp; done) | (go_simp; rfl)); intro gb340 hg w56 hbox hb; have n0_ := Aside0.mk (Kd.R_below (by (with_reducible repeat (first | apply Kd.R_alloc | apply Kd.R_drewN | apply Kd.R_drew)); exact HO_8.out) hb); have n1_ := Aside0.mk (Kd.R_below (by (with_reducible repeat (first | apply Kd.R_alloc | apply Kd.R_drewN | apply Kd.R_drew)); exact HO_9.out) hb); have n2_ := Aside0.mk (Kd.R_below (by (with_reducible repeat (first | apply Kd.R_alloc | apply Kd.R_drewN | apply Kd.R_drew)); exact HO_11.out) hb); have n3_ := Aside0.mk (Kd.R_below (by (with_reducible repeat (first | apply Kd.R_alloc | apply Kd.R_drewN | apply Kd.R_drew)); exact HO_12.out) hb); have n4_ := Aside0.mk (blk_below (g := gb328) (o := .cells #[.int .i64 t325, .int .i64 t326] 29 (0, 0)) (by (with_reducible repeat (first | refine blk_drewN ?_ _ | refine blk_drew ?_ | refine blk_alloc ?_ _)); exact BK328.out) hb); have n5_ := Aside0.mk (blk_below (g := gb332) (o := .cells #[.int .i64 t329, .int .i64 t330] 29 (0, 0)) (by (with_reducible repeat (first | refine blk_drewN ?_ _ | refine blk_drew ?_ | refine blk_alloc ?_ _)); exact BK332.out) hb); have n6_ := Aside0.mk (blk_below (g := gb336) (o := .cells #[.int .i64 t333, .int .i64 t334] 29 (0, 0)) (by (with_reducible repeat (first | refine blk_drewN ?_ _ | refine blk_drew ?_ | refine blk_alloc ?_ _)); exact BK336.out) hb); have n7_ := Aside0.mk (below_step (by repeat (first | (with_reducible first | exact HB.out | apply below_alloc | apply pw_below_drewN | apply below_drew1 | refine below_set ?_ GE328.out | refine below_set ?_ GE332.out | refine below_set ?_ GE336.out) | exact HB.out)) hb); have n8_ := Aside0.mk (hbox); have n9_ := Aside0.mk ((by rw [hg]; exact (below_size (by repeat (first | (with_reducible first | exact HB.out | apply below_alloc | apply pw_below_drewN | apply below_drew1 | refine below_set ?_ GE328.out | refine below_set ?_ GE332.out | refine below_set ?_ GE336.out) | exact HB.out))) : w.heap.size ≤ gb340)); have n10_ := Aside0.mk ((by rw [hg]; exact (below_size (by repeat (first | (with_reducible first | exact HB.out | apply below_alloc | apply pw_below_drewN | apply below_drew1 | refine below_set ?_ GE328.out | refine below_set ?_ GE332.out | refine below_set ?_ GE336.out) | exact HB.out))) : w.heap.size ≤ gb340)); have n11_ := Aside0.mk ((by rw [hg]; exact Nat.ne_of_lt (blk_lt (g := gb328) (o := .cells #[.int .i64 t325, .int .i64 t326] 29 (0, 0)) (by (with_reducible repeat (first | refine blk_drewN ?_ _ | refine blk_drew ?_ | refine blk_alloc ?_ _)); exact BK328.out)) : gb328 ≠ gb340)); have n12_ := Aside0.mk ((by rw [hg]; exact Nat.ne_of_gt (blk_lt (g := gb328) (o := .cells #[.int .i64 t325, .int .i64 t326] 29 (0, 0)) (by (with_reducible repeat (first | refine blk_drewN ?_ _ | refine blk_drew ?_ | refine blk_alloc ?_ _)); exact BK328.out)) : gb340 ≠ gb328)); have n13_ := Aside0.mk ((by rw [hg]; exact Nat.ne_of_lt (blk_lt (g := gb332) (o := .cells #[.int .i64 t329, .int .i64 t330] 29 (0, 0)) (by (with_reducible repeat (first | refine blk_drewN ?_ _ | refine blk_drew ?_ | refine blk_alloc ?_ _)); exact BK332.out)) : gb332 ≠ gb340)); have n14_ := Aside0.mk ((by rw [hg]; exact Nat.ne_of_gt (blk_lt (g := gb332) (o := .cells #[.int .i64 t329, .int .i64 t330] 29 (0, 0)) (by (with_reducible repeat (first | refine blk_drewN ?_ _ | refine blk_drew ?_ | refine blk_alloc ?_ _)); exact BK332.out)) : gb340 ≠ gb332)); have n15_ := Aside0.mk ((by rw [hg]; exact Nat.ne_of_lt (blk_lt (g := gb336) (o := .cells #[.int .i64 t333, .int .i64 t334] 29 (0, 0)) (by (with_reducible repeat (first | refine blk_drewN ?_ _ | refine blk_drew ?_ | refine blk_alloc ?_ _)); exact BK336.out)) : gb336 ≠ gb340)); have n16_ := Aside0.mk ((by rw [hg]; exact Nat.ne_of_gt (blk_lt (g := gb336) (o := .cells #[.int .i64 t333, .int .i64 t334] 29 (0, 0)) (by (with_reducible repeat (first | refine blk_drewN ?_ _ | refine blk_drew ?_ | refine blk_alloc ?_ _)); exact BK336.out)) : gb340 ≠ gb336)); clear HO_8; clear HO_9; clear HO_11; clear HO_12; clear BK328; clear BK332; clear BK336; clear HB; have HO_8 := n0_; have HO_9 := n1_; have HO_11 := n2_; have HO_12 := n3_; have BK328 := n4_; have BK332 := n5_; have BK336 := n6_; have HB := n7_; have BK340 := n8_; have GW340 := n9_; have GE340 := n10_; have NB328_340 := n11_; have NB340_328 := n12_; have NB332_340 := n13_; have NB340_332 := n14_; have NB336_340 := n15_; have NB340_336 := n16_; clear n0_ n1_ n2_ n3_ n4_ n5_ n6_ n7_ n8_ n9_ n10_ n11_ n12_ n13_ n14_ n15_ n16_; clear hb hbox hg; have hnb57 := NB340_328.out; have hnc57 := NB328_340.out; have hnb58 := NB340_332.out; have hnc58 := NB332_340.out; have hnb59 := NB340_336.out; have hnc59 := NB336_340.out; have hcz60_0 : w56.cell? ⟨gb340, 0, none⟩ = some (.int .i64 0) := (blk_cell BK340.out 0).trans rfl; have hcz60_1 : w56.cell? ⟨gb340, 1, none⟩ = some (.int .i64 0) := (blk_cell BK340.out 1).trans rfl; have hfz60_0 := blk_frozen BK340.out 0; have hfz60_1 := blk_frozen BK340.out 1) | ((with_reducible refine gate_dst (N := 22) rfl ?_); refine box_event ?hg (N := 22) ?hd (cs := #[.int .i64 0, .int .i64 0]) (t := 29) ?hr ?_; (case hd => rfl); (case hg => rfl); (case hr => first | (go_simp; done) | (go_simp; rfl)); intro gb341 hg w61 hbox hb; have n0_ := Aside0.mk (Kd.R_below (by (with_reducible repeat (first | apply Kd.R_alloc | apply Kd.R_drewN | apply Kd.R_drew)); exact (Kd.R_mono (Kd.R_far (p := ⟨gb340, 1, none⟩) (Kd.R_far (p := ⟨gb340, 0, none⟩) (Kd.R_types HO_8.out BK340.out (by decide)) (fun _ hk => hk.2) (.int .i64 t337)) (fun _ hk => hk.2) (.int .i64 t338)) (fun _ h_ => h_.1))) hb); have n1_ := Aside0.mk (Kd.R_below (by (with_reducible repeat (first | apply Kd.R_alloc | apply Kd.R_drewN | apply Kd.R_drew)); exact (Kd.R_mono (Kd.R_far (p := ⟨gb340, 1, none⟩) (Kd.R_far (p := ⟨gb340, 0, none⟩) (Kd.R_types HO_9.out BK340.out (by decide)) (fun _ hk => hk.2) (.int .i64 t337)) (fun _ hk => hk.2) (.int .i64 t338)) (fun _ h_ => h_.1))) hb); have n2_ := Aside0.mk (Kd.R_below (by (with_reducible repeat (first | apply Kd.R_alloc | apply Kd.R_drewN | apply Kd.R_drew)); exact (Kd.R_mono (Kd.R_far (p := ⟨gb340, 1, none⟩) (Kd.R_far (p := ⟨gb340, 0, none⟩) (Kd.R_types HO_11.out BK340.out (by decide)) (fun _ hk => hk.2) (.int .i64 t337)) (fun _ hk => hk.2) (.int .i64 t338)) (fun _ h_ => h_.1))) hb); have n3_ := Aside0.mk (Kd.R_below (by (with_reducible repeat (first | apply Kd.R_alloc | apply Kd.R_drewN | apply Kd.R_drew)); exact (Kd.R_mono (Kd.R_far (p := ⟨gb340, 1, none⟩) (Kd.R_far (p := ⟨gb340, 0, none⟩) (Kd.R_types HO_12.out BK340.out (by decide)) (fun _ hk => hk.2) (.int .i64 t337)) (fun _ hk => hk.2) (.int .i64 t338)) (fun _ h_ => h_.1))) hb); have n4_ := Aside0.mk (blk_below (g := gb328) (o := .cells #[.int .i64 t325, .int .i64 t326] 29 (0, 0)) (by (with_reducible repeat (first | refine blk_drewN ?_ _ | refine blk_drew ?_ | refine blk_alloc ?_ _)); refine blk_far ?_ NB328_340.out _; (with_reducible repeat (first | refine blk_drewN ?_ _ | refine blk_drew ?_ | refine blk_alloc ?_ _)); refine blk_far ?_ NB328_340.out _; (with_reducible repeat (first | refine blk_drewN ?_ _ | refine blk_drew ?_ | refine blk_alloc ?_ _)); exact BK328.out) hb); have n5_ := Aside0.mk (blk_below (g := gb332) (o := .cells #[.int .i64 t329, .int .i64 t330] 29 (0, 0)) (by (with_reducible repeat (first | refine blk_drewN ?_ _ | refine blk_drew ?_ | refine blk_alloc ?_ _)); refine blk_far ?_ NB332_340.out _; (with_reducible repeat (first | refine blk_drewN ?_ _ | refine blk_drew ?_ | refine blk_alloc ?_ _)); refine blk_far ?_ NB332_340.out _; (with_reducible repeat (first | refine blk_drewN ?_ _ | refine blk_drew ?_ | refine blk_alloc ?_ _)); exact BK332.out) hb); have n6_ := Aside0.mk (blk_below (g := gb336) (o := .cells #[.int .i64 t333, .int .i64 t334] 29 (0, 0)) (by (with_reducible repeat (first | refine blk_drewN ?_ _ | refine blk_drew ?_ | refine blk_alloc ?_ _)); refine blk_far ?_ NB336_340.out _; (with_reducible repeat (first | refine blk_drewN ?_ _ | refine blk_drew ?_ | refine blk_alloc ?_ _)); refine blk_far ?_ NB336_340.out _; (with_reducible repeat (first | refine blk_drewN ?_ _ | refine blk_drew ?_ | refine blk_alloc ?_ _)); exact BK336.out) hb); have n7_ := Aside0.mk (blk_below (g := gb340) (o := .cells #[.int .i64 t337, .int .i64 t338] 29 (0, 0)) (by (with_reducible repeat (first | refine blk_drewN ?_ _ | refine blk_drew ?_ | refine blk_alloc ?_ _)); refine blk_put (cs := #[.int .i64 t337, .int .i64 0]) ?_ 1 _ rfl; (with_reducible repeat (first | refine blk_drewN ?_ _ | refine blk_drew ?_ | refine blk_alloc ?_ _)); refine blk_put (cs := #[.int .i64 0, .int .i64 0]) ?_ 0 _ rfl; (with_reducible repeat (first | refine blk_drewN ?_ _ | refine blk_drew ?_ | refine blk_alloc ?_ _)); exact BK340.out) hb); have n8_ := Aside0.mk (below_step (by repeat (first | (with_reducible first | exact HB.out | apply below_alloc | apply pw_below_drewN | apply below_drew1 | refine below_set ?_ GE328.out | refine below_set ?_ GE332.out | refine below_set ?_ GE336.out | refine below_set ?_ GE340.out) | exact HB.out)) hb); have n9_ := Aside0.mk (hbox); have n10_ := Aside0.mk ((by rw [hg]; exact (below_size (by repeat (first | (with_reducible first | exact HB.out | apply below_alloc | apply pw_below_drewN | apply below_drew1 | refine below_set ?_ GE328.out | refine below_set ?_ GE332.out | refine below_set ?_ GE336.out | refine below_set ?_ GE340.out) | exact HB.out))) : w.heap.size ≤ gb341)); have n11_ := Aside0.mk ((by rw [hg]; exact (below_size (by repeat (first | (with_reducible first | exact HB.out | apply below_alloc | apply pw_below_drewN | apply below_drew1 | refine below_set ?_ GE328.out | refine below_set ?_ GE332.out | refine below_set ?_ GE336.out | refine below_set ?_ GE340.out) | exact HB.out))) : w.heap.size ≤ gb341)); have n12_ := Aside0.mk ((by rw [hg]; exact Nat.ne_of_lt (blk_lt (g := gb328) (o := .cells #[.int .i64 t325, .int .i64 t326] 29 (0, 0)) (by (with_reducible repeat (first | refine blk_drewN ?_ _ | refine blk_drew ?_ | refine blk_alloc ?_ _)); refine blk_far ?_ NB328_340.out _; (with_reducible repeat (first | refine blk_drewN ?_ _ | refine blk_drew ?_ | refine blk_alloc ?_ _)); refine blk_far ?_ NB328_340.out _; (with_reducible repeat (first | refine blk_drewN ?_ _ | refine blk_drew ?_ | refine blk_alloc ?_ _)); exact BK328.out)) : gb328 ≠ gb341)); have n13_ := Aside0.mk ((by rw [hg]; exact Nat.ne_of_gt (blk_lt (g := gb328) (o := .cells #[.int .i64 t325, .int .i64 t326] 29 (0, 0)) (by (with_reducible repeat (first | refine blk_drewN ?_ _ | refine blk_drew ?_ | refine blk_alloc ?_ _)); refine blk_far ?_ NB328_340.out _; (with_reducible repeat (first | refine blk_drewN ?_ _ | refine blk_drew ?_ | refine blk_alloc ?_ _)); refine blk_far ?_ NB328_340.out _; (with_reducible repeat (first | refine blk_drewN ?_ _ | refine blk_drew ?_ | refine blk_alloc ?_ _)); exact BK328.out)) : gb341 ≠ gb328)); have n14_ := Aside0.mk ((by rw [hg]; exact Nat.ne_of_lt (blk_lt (g := gb332) (o := .cells #[.int .i64 t329, .int .i64 t330] 29 (0, 0)) (by (with_reducible repeat (first | refine blk_drewN ?_ _ | refine blk_drew ?_ | refine blk_alloc ?_ _)); refine blk_far ?_ NB332_340.out _; (with_reducible repeat (first | refine blk_drewN ?_ _ | refine blk_drew ?_ | refine blk_alloc ?_ _)); refine blk_far ?_ NB332_340.out _; (with_reducible repeat (first | refine blk_drewN ?_ _ | refine blk_drew ?_ | refine blk_alloc ?_ _)); exact BK332.out)) : gb332 ≠ gb341)); have n15_ := Aside0.mk ((by rw [hg]; exact Nat.ne_of_gt (blk_lt (g := gb332) (o := .cells #[.int .i64 t329, .int .i64 t330] 29 (0, 0)) (by (with_reducible repeat (first | refine blk_drewN ?_ _ | refine blk_drew ?_ | refine blk_alloc ?_ _)); refine blk_far ?_ NB332_340.out _; (with_reducible repeat (first | refine blk_drewN ?_ _ | refine blk_drew ?_ | refine blk_alloc ?_ _)); refine blk_far ?_ NB332_340.out _; (with_reducible repeat (first | refine blk_drewN ?_ _ | refine blk_drew ?_ | refine blk_alloc ?_ _)); exact BK332.out)) : gb341 ≠ gb332)); have n16_ := Aside0.mk ((by rw [hg]; exact Nat.ne_of_lt (blk_lt (g := gb336) (o := .cells #[.int .i64 t333, .int .i64 t334] 29 (0, 0)) (by (with_reducible repeat (first | refine blk_drewN ?_ _ | refine blk_drew ?_ | refine blk_alloc ?_ _)); refine blk_far ?_ NB336_340.out _; (with_reducible repeat (first | refine blk_drewN ?_ _ | refine blk_drew ?_ | refine blk_alloc ?_ _)); refine blk_far ?_ NB336_340.out _; (with_reducible repeat (first | refine blk_drewN ?_ _ | refine blk_drew ?_ | refine blk_alloc ?_ _)); exact BK336.out)) : gb336 ≠ gb341)); have n17_ := Aside0.mk ((by rw [hg]; exact Nat.ne_of_gt (blk_lt (g := gb336) (o := .cells #[.int .i64 t333, .int .i64 t334] 29 (0, 0)) (by (with_reducible repeat (first | refine blk_drewN ?_ _ | refine blk_drew ?_ | refine blk_alloc ?_ _)); refine blk_far ?_ NB336_340.out _; (with_reducible repeat (first | refine blk_drewN ?_ _ | refine blk_drew ?_ | refine blk_alloc ?_ _)); refine blk_far ?_ NB336_340.out _; (with_reducible repeat (first | refine blk_drewN ?_ _ | refine blk_drew ?_ | refine blk_alloc ?_ _)); exact BK336.out)) : gb341 ≠ gb336)); have n18_ := Aside0.mk ((by rw [hg]; exact Nat.ne_of_lt (blk_lt (g := gb340) (o := .cells #[.int .i64 t337, .int .i64 t338] 29 (0, 0)) (by (with_reducible repeat (first | refine blk_drewN ?_ _ | refine blk_drew ?_ | refine blk_alloc ?_ _)); refine blk_put (cs := #[.int .i64 t337, .int .i64 0]) ?_ 1 _ rfl; (with_reducible repeat (first | refine blk_drewN ?_ _ | refine blk_drew ?_ | refine blk_alloc ?_ _)); refine blk_put (cs := #[.int .i64 0, .int .i64 0]) ?_ 0 _ rfl; (with_reducible repeat (first | refine blk_drewN ?_ _ | refine blk_drew ?_ | refine blk_alloc ?_ _)); exact BK340.out)) : gb340 ≠ gb341)); have n19_ := Aside0.mk ((by rw [hg]; exact Nat.ne_of_gt (blk_lt (g := gb340) (o := .cells #[.int .i64 t337, .int .i64 t338] 29 (0, 0)) (by (with_reducible repeat (first | refine blk_drewN ?_ _ | refine blk_drew ?_ | refine blk_alloc ?_ _)); refine blk_put (cs := #[.int .i64 t337, .int .i64 0]) ?_ 1 _ rfl; (with_reducible repeat (first | refine blk_drewN ?_ _ | refine blk_drew ?_ | refine blk_alloc ?_ _)); refine blk_put (cs := #[.int .i64 0, .int .i64 0]) ?_ 0 _ rfl; (with_reducible repeat (first | refine blk_drewN ?_ _ | refine blk_drew ?_ | refine blk_alloc ?_ _)); exact BK340.out)) : gb341 ≠ gb340)); clear HO_8; clear HO_9; clear HO_11; clear HO_12; clear BK328; clear BK332; clear BK336; clear BK340; clear HB; have HO_8 := n0_; have HO_9 := n1_; have HO_11 := n2_; have HO_12 := n3_; have BK328 := n4_; have BK332 := n5_; have BK336 := n6_; have BK340 := n7_; have HB := n8_; have BK341 := n9_; have GW341 := n10_; have GE341 := n11_; have NB328_341 := n12_; have NB341_328 := n13_; have NB332_341 := n14_; have NB341_332 := n15_; have NB336_341 := n16_; have NB341_336 := n17_; have NB340_341 := n18_; have NB341_340 := n19_; clear n0_ n1_ n2_ n3_ n4_ n5_ n6_ n7_ n8_ n9_ n10_ n11_ n12_ n13_ n14_ n15_ n16_ n17_ n18_ n19_; clear hb hbox hg; have hnb62 := NB341_328.out; have hnc62 := NB328_341.out; have hnb63 := NB341_332.out; have hnc63 := NB332_341.out; have hnb64 := NB341_336.out; have hnc64 := NB336_341.out; have hnb65 := NB341_340.out; have hnc65 := NB340_341.out; have hcz66_0 : w61.cell? ⟨gb341, 0, none⟩ = some (.int .i64 0) := (blk_cell BK341.out 0).trans rfl; have hcz66_1 : w61.cell? ⟨gb341, 1, none⟩ = some (.int .i64 0) := (blk_cell BK341.out 1).trans rfl; have hfz66_0 := blk_frozen BK341.out 0; have hfz66_1 := blk_frozen BK341.out 1) | ((with_reducible refine gate_callee (f := 12) rfl ?_); refine goesL_ (some 106) rfl rfl Try.func12 (by kernel_rfl) rfl #[.slice Ao8 x8_1.length co8] rfl (by (try simp only [List.map_toArray, List.map_cons, List.map_nil]); first | done | rfl | (simp only [List.length_drop, List.length_take]; rfl)) ?_; (with_reducible refine (shapesearchlaw13_spread.calls k1 _ _ x8_1 t342 _ ?side1 ?side2 A38.out).mono ?_); (case side1 => refine (Kd.R_reads' (e := 3) (base := w.heap.size) (ok := fun k_ => (some k_ ≠ (.slice Ao40 x9_1.length co40 : Value).ownBlock ∧ (some k_ ≠ (.slice Ao44 x11_1.length co44 : Value).ownBlock ∧ some k_ ≠ (.slice Ao54 x12_1.length co54 : Value).ownBlock))) (n := x8_1.length) (c := co8) ?_).2.2; exact (by (with_reducible repeat (first | apply Kd.R_alloc | apply Kd.R_drewN | apply Kd.R_drew)); exact (Kd.R_mono (Kd.R_far (p := ⟨gb341, 1, none⟩) (Kd.R_far (p := ⟨gb341, 0, none⟩) (Kd.R_types HO_8.out BK341.out (by decide)) (fun _ hk => hk.2) (.int .i64 0)) (fun _ hk => hk.2) (.int .i64 1)) (fun _ h_ => h_.1)))); (case side2 => exact (Kd.R_reads' HO_8.out).2.1); rintro e w' ⟨rfl, ⟨nd, rfl⟩⟩; refine ⟨_, rfl, ?_⟩))
        (try simp only [Act.put, List.setIfInBounds_toArray, List.set_cons_zero, List.set_cons_succ])
        go_cut [] (fun wc => ∃ (kq : Nat) (x342000_38 : Int), Aside0 (shapesearchlaw13_NormalScales.j1 kq t327 t331 t335 t339 t325 t326 t329 t330 t333 t334 t337 t338 x342000_38 1 = some r) ∧ Aside0 (kq ≤ k1) ∧ Aside0 (wc.heap[gb328]? = some (.cells #[.int .i64 t325, .int .i64 t326] 29 (0, 0))) ∧ Aside0 (wc.heap[gb332]? = some (.cells #[.int .i64 t329, .int .i64 t330] 29 (0, 0))) ∧ Aside0 (wc.heap[gb336]? = some (.cells #[.int .i64 t333, .int .i64 t334] 29 (0, 0))) ∧ Aside0 (wc.heap[gb340]? = some (.cells #[.int .i64 t337, .int .i64 t338] 29 (0, 0))) ∧ Aside0 (wc.heap[gb341]? = some (.cells #[.int .i64 x342000_38, .int .i64 1] 29 (0, 0))) ∧ Aside0 (Below w.heap.size w wc))
        case first =>
          have H := HC39.out
          clear HC39
          by_cases c67 : t342 = true
          · subst c67
            have H1 : (shapesearchlaw13_NormalScales.j1 k1 t327 t331 t335 t339 t325 t326 t329 t330 t333 t334 t337 t338 2 1) = some r := by rw [if_pos rfl] at H; exact H
            clear H
            have H := H1
            clear H1
            have H' := Aside0.mk H
            clear H
            have hnb68 := NB341_328.out
            have hnc68 := NB328_341.out
            have hnb69 := NB341_332.out
            have hnc69 := NB332_341.out
            have hnb70 := NB341_336.out
            have hnc70 := NB336_341.out
            have hnb71 := NB341_340.out
            have hnc71 := NB340_341.out
            have hcz72_0 : w61.cell? ⟨gb341, 0, none⟩ = some (.int .i64 0) := (blk_cell BK341.out 0).trans rfl
            have hcz72_1 : w61.cell? ⟨gb341, 1, none⟩ = some (.int .i64 0) := (blk_cell BK341.out 1).trans rfl
            have hfz72_0 := blk_frozen BK341.out 0
            have hfz72_1 := blk_frozen BK341.out 1
            go_wp2
            go_meet
            case rel => exact ⟨_, (2), H', ⟨by have := HK1.out; first | omega | exact Nat.le_refl _⟩, ⟨by (try simp only [hl8_1]); (with_reducible repeat (first | refine blk_drewN ?_ _ | refine blk_drew ?_ | refine blk_alloc ?_ _)); refine blk_far ?_ NB328_341.out _; (with_reducible repeat (first | refine blk_drewN ?_ _ | refine blk_drew ?_ | refine blk_alloc ?_ _)); refine blk_far ?_ NB328_341.out _; (with_reducible repeat (first | refine blk_drewN ?_ _ | refine blk_drew ?_ | refine blk_alloc ?_ _)); refine blk_far ?_ NB328_341.out _; (with_reducible repeat (first | refine blk_drewN ?_ _ | refine blk_drew ?_ | refine blk_alloc ?_ _)); exact BK328.out⟩, ⟨by (try simp only [hl8_1]); (with_reducible repeat (first | refine blk_drewN ?_ _ | refine blk_drew ?_ | refine blk_alloc ?_ _)); refine blk_far ?_ NB332_341.out _; (with_reducible repeat (first | refine blk_drewN ?_ _ | refine blk_drew ?_ | refine blk_alloc ?_ _)); refine blk_far ?_ NB332_341.out _; (with_reducible repeat (first | refine blk_drewN ?_ _ | refine blk_drew ?_ | refine blk_alloc ?_ _)); refine blk_far ?_ NB332_341.out _; (with_reducible repeat (first | refine blk_drewN ?_ _ | refine blk_drew ?_ | refine blk_alloc ?_ _)); exact BK332.out⟩, ⟨by (try simp only [hl8_1]); (with_reducible repeat (first | refine blk_drewN ?_ _ | refine blk_drew ?_ | refine blk_alloc ?_ _)); refine blk_far ?_ NB336_341.out _; (with_reducible repeat (first | refine blk_drewN ?_ _ | refine blk_drew ?_ | refine blk_alloc ?_ _)); refine blk_far ?_ NB336_341.out _; (with_reducible repeat (first | refine blk_drewN ?_ _ | refine blk_drew ?_ | refine blk_alloc ?_ _)); refine blk_far ?_ NB336_341.out _; (with_reducible repeat (first | refine blk_drewN ?_ _ | refine blk_drew ?_ | refine blk_alloc ?_ _)); exact BK336.out⟩, ⟨by (try simp only [hl8_1]); (with_reducible repeat (first | refine blk_drewN ?_ _ | refine blk_drew ?_ | refine blk_alloc ?_ _)); refine blk_far ?_ NB340_341.out _; (with_reducible repeat (first | refine blk_drewN ?_ _ | refine blk_drew ?_ | refine blk_alloc ?_ _)); refine blk_far ?_ NB340_341.out _; (with_reducible repeat (first | refine blk_drewN ?_ _ | refine blk_drew ?_ | refine blk_alloc ?_ _)); refine blk_far ?_ NB340_341.out _; (with_reducible repeat (first | refine blk_drewN ?_ _ | refine blk_drew ?_ | refine blk_alloc ?_ _)); exact BK340.out⟩, ⟨by (try simp only [hl8_1]); (with_reducible repeat (first | refine blk_drewN ?_ _ | refine blk_drew ?_ | refine blk_alloc ?_ _)); refine blk_put (cs := #[.int .i64 0, .int .i64 1]) ?_ 0 _ rfl; (with_reducible repeat (first | refine blk_drewN ?_ _ | refine blk_drew ?_ | refine blk_alloc ?_ _)); refine blk_put (cs := #[.int .i64 0, .int .i64 0]) ?_ 1 _ rfl; (with_reducible repeat (first | refine blk_drewN ?_ _ | refine blk_drew ?_ | refine blk_alloc ?_ _)); refine blk_put (cs := #[.int .i64 0, .int .i64 0]) ?_ 0 _ rfl; (with_reducible repeat (first | refine blk_drewN ?_ _ | refine blk_drew ?_ | refine blk_alloc ?_ _)); exact BK341.out⟩, ⟨by repeat (first | (with_reducible first | exact HB.out | apply below_alloc | apply pw_below_drewN | apply below_drew1 | refine below_set ?_ GE328.out | refine below_set ?_ GE332.out | refine below_set ?_ GE336.out | refine below_set ?_ GE340.out | refine below_set ?_ GE341.out) | exact HB.out)⟩⟩
          · replace c67 := Bool.eq_false_iff.mpr c67
            subst c67
            have H1 : (shapesearchlaw13_NormalScales.j1 k1 t327 t331 t335 t339 t325 t326 t329 t330 t333 t334 t337 t338 0 1) = some r := by rw [if_neg (show ¬ (false = true) by decide)] at H; exact H
            clear H
            have H := H1
            clear H1
            have H' := Aside0.mk H
            clear H
            go_wp2
            go_meet
            case rel => exact ⟨_, (0), H', ⟨by have := HK1.out; first | omega | exact Nat.le_refl _⟩, ⟨by (try simp only [hl8_1]); (with_reducible repeat (first | refine blk_drewN ?_ _ | refine blk_drew ?_ | refine blk_alloc ?_ _)); refine blk_far ?_ NB328_341.out _; (with_reducible repeat (first | refine blk_drewN ?_ _ | refine blk_drew ?_ | refine blk_alloc ?_ _)); refine blk_far ?_ NB328_341.out _; (with_reducible repeat (first | refine blk_drewN ?_ _ | refine blk_drew ?_ | refine blk_alloc ?_ _)); exact BK328.out⟩, ⟨by (try simp only [hl8_1]); (with_reducible repeat (first | refine blk_drewN ?_ _ | refine blk_drew ?_ | refine blk_alloc ?_ _)); refine blk_far ?_ NB332_341.out _; (with_reducible repeat (first | refine blk_drewN ?_ _ | refine blk_drew ?_ | refine blk_alloc ?_ _)); refine blk_far ?_ NB332_341.out _; (with_reducible repeat (first | refine blk_drewN ?_ _ | refine blk_drew ?_ | refine blk_alloc ?_ _)); exact BK332.out⟩, ⟨by (try simp only [hl8_1]); (with_reducible repeat (first | refine blk_drewN ?_ _ | refine blk_drew ?_ | refine blk_alloc ?_ _)); refine blk_far ?_ NB336_341.out _; (with_reducible repeat (first | refine blk_drewN ?_ _ | refine blk_drew ?_ | refine blk_alloc ?_ _)); refine blk_far ?_ NB336_341.out _; (with_reducible repeat (first | refine blk_drewN ?_ _ | refine blk_drew ?_ | refine blk_alloc ?_ _)); exact BK336.out⟩, ⟨by (try simp only [hl8_1]); (with_reducible repeat (first | refine blk_drewN ?_ _ | refine blk_drew ?_ | refine blk_alloc ?_ _)); refine blk_far ?_ NB340_341.out _; (with_reducible repeat (first | refine blk_drewN ?_ _ | refine blk_drew ?_ | refine blk_alloc ?_ _)); refine blk_far ?_ NB340_341.out _; (with_reducible repeat (first | refine blk_drewN ?_ _ | refine blk_drew ?_ | refine blk_alloc ?_ _)); exact BK340.out⟩, ⟨by (try simp only [hl8_1]); (with_reducible repeat (first | refine blk_drewN ?_ _ | refine blk_drew ?_ | refine blk_alloc ?_ _)); refine blk_put (cs := #[.int .i64 0, .int .i64 0]) ?_ 1 _ rfl; (with_reducible repeat (first | refine blk_drewN ?_ _ | refine blk_drew ?_ | refine blk_alloc ?_ _)); refine blk_put (cs := #[.int .i64 0, .int .i64 0]) ?_ 0 _ rfl; (with_reducible repeat (first | refine blk_drewN ?_ _ | refine blk_drew ?_ | refine blk_alloc ?_ _)); exact BK341.out⟩, ⟨by repeat (first | (with_reducible first | exact HB.out | apply below_alloc | apply pw_below_drewN | apply below_drew1 | refine below_set ?_ GE328.out | refine below_set ?_ GE332.out | refine below_set ?_ GE336.out | refine below_set ?_ GE340.out | refine below_set ?_ GE341.out) | exact HB.out)⟩⟩
        case rest =>
          clear HC39
          try clear c1
          try clear p2
          try clear c4
          try clear c5
          try clear c6
          try clear p6
          try clear c7
          try clear c9
          try clear c9b0
          try clear c10
          try clear c11
          try clear c12
          try clear c15
          try clear c16
          try clear c47
          try clear c51
          try clear c52
          try clear c57
          try clear c58
          try clear c59
          try clear c62
          try clear c63
          try clear c64
          try clear p64
          try clear c65
          try clear c67
          try clear c68
          try clear c69
          try clear c70
          try clear c71
          try clear hcz43_0
          try clear hcz43_1
          try clear hcz48_0
          try clear hcz48_1
          try clear hcz53_0
          try clear hcz53_1
          try clear hcz60_0
          try clear hcz60_1
          try clear hcz66_0
          try clear hcz66_1
          try clear hcz72_0
          try clear hcz72_1
          try clear hfz43_0
          try clear hfz43_1
          try clear hfz48_0
          try clear hfz48_1
          try clear hfz53_0
          try clear hfz53_1
          try clear hfz60_0
          try clear hfz60_1
          try clear hfz66_0
          try clear hfz66_1
          try clear hfz72_0
          try clear hfz72_1
          obtain ⟨kq, x342000_38, HA, HJ38, BK328, BK332, BK336, BK340, BK341, HB⟩ := hcut
          cases kq with
          | zero => exact absurd HA.out (by simp [shapesearchlaw13_NormalScales.j1])
          | succ kj38 =>
            have H := HA.out
            clear HA
            simp only [shapesearchlaw13_NormalScales.j1] at H
            by_cases c73 : t327 = 0
            · rw [if_pos c73] at H
              have c73b0 : (t327 == 0) = true := beq_iff_eq.mpr c73
              have c73b1 : (t327 != 0) = false := bne_eq_false_iff_eq.mpr c73
              clear c73
              by_cases c74 : t331 = 0
              · rw [if_pos c74] at H
                have c74b0 : (t331 == 0) = true := beq_iff_eq.mpr c74
                have c74b1 : (t331 != 0) = false := bne_eq_false_iff_eq.mpr c74
                clear c74
                by_cases c75 : t335 = 0
                · rw [if_pos c75] at H
                  have c75b0 : (t335 == 0) = true := beq_iff_eq.mpr c75
                  have c75b1 : (t335 != 0) = false := bne_eq_false_iff_eq.mpr c75
                  clear c75
                  by_cases c76 : t339 = 0
                  · rw [if_pos c76] at H
                    have c76b0 : (t339 == 0) = true := beq_iff_eq.mpr c76
                    have c76b1 : (t339 != 0) = false := bne_eq_false_iff_eq.mpr c76
                    clear c76
                    by_cases c77 : (t325 == t329 && (t326 == t330)) = true
                    · rw [if_pos c77] at H
                      have c77b0 : (t325 == t329 && (t326 == t330)) = true := c77
                      (try (have c77b1 : decide (t325 = t329 && (t326 == t330)) = true := by simpa using c77))
                      (try (have c77b2 : (t325 == t329 && (t326 == t330)) = true := by simpa using c77))
                      clear c77
                      by_cases c78 : (t333 == 0 && (t334 == 1)) = true
                      · rw [if_pos c78] at H
                        have c78b0 : (t333 == 0 && (t334 == 1)) = true := c78
                        (try (have c78b1 : decide (t333 = 0 && (t334 == 1)) = true := by simpa using c78))
                        (try (have c78b2 : (t333 == 0 && (t334 == 1)) = true := by simpa using c78))
                        clear c78
                        by_cases c79 : (t337 == x342000_38 && (t338 == 1)) = true
                        · rw [if_pos c79] at H
                          have c79b0 : (t337 == x342000_38 && (t338 == 1)) = true := c79
                          (try (have c79b1 : decide (t337 = x342000_38 && (t338 == 1)) = true := by simpa using c79))
                          (try (have c79b2 : (t337 == x342000_38 && (t338 == 1)) = true := by simpa using c79))
                          clear c79
                          replace H := Option.bind_eq_some_iff.mp H
                          obtain ⟨t343, A800, H⟩ := H
                          replace H : (some t343) = some r := H
                          have A80 := Aside0.mk A800
                          clear A800
                          obtain rfl := Option.some.inj H
                          have hnb81 := NB328_332.out
                          have hnc81 := NB332_328.out
                          have hnb82 := NB328_336.out
                          have hnc82 := NB336_328.out
                          have hnb83 := NB328_340.out
                          have hnc83 := NB340_328.out
                          have hnb84 := NB328_341.out
                          have hnc84 := NB341_328.out
                          have hcz85_0 : wc.cell? ⟨gb328, 0, none⟩ = some (.int .i64 t325) := (blk_cell BK328.out 0).trans rfl
                          have hcz85_1 : wc.cell? ⟨gb328, 1, none⟩ = some (.int .i64 t326) := (blk_cell BK328.out 1).trans rfl
                          have hfz85_0 := blk_frozen BK328.out 0
                          have hfz85_1 := blk_frozen BK328.out 1
                          have hnb86 := NB332_336.out
                          have hnc86 := NB336_332.out
                          have hnb87 := NB332_340.out
                          have hnc87 := NB340_332.out
                          have hnb88 := NB332_341.out
                          have hnc88 := NB341_332.out
                          have hcz89_0 : wc.cell? ⟨gb332, 0, none⟩ = some (.int .i64 t329) := (blk_cell BK332.out 0).trans rfl
                          have hcz89_1 : wc.cell? ⟨gb332, 1, none⟩ = some (.int .i64 t330) := (blk_cell BK332.out 1).trans rfl
                          have hfz89_0 := blk_frozen BK332.out 0
                          have hfz89_1 := blk_frozen BK332.out 1
                          have hnb90 := NB336_340.out
                          have hnc90 := NB340_336.out
                          have hnb91 := NB336_341.out
                          have hnc91 := NB341_336.out
                          have hcz92_0 : wc.cell? ⟨gb336, 0, none⟩ = some (.int .i64 t333) := (blk_cell BK336.out 0).trans rfl
                          have hcz92_1 : wc.cell? ⟨gb336, 1, none⟩ = some (.int .i64 t334) := (blk_cell BK336.out 1).trans rfl
                          have hfz92_0 := blk_frozen BK336.out 0
                          have hfz92_1 := blk_frozen BK336.out 1
                          have hnb93 := NB340_341.out
                          have hnc93 := NB341_340.out
                          have hcz94_0 : wc.cell? ⟨gb340, 0, none⟩ = some (.int .i64 t337) := (blk_cell BK340.out 0).trans rfl
                          have hcz94_1 : wc.cell? ⟨gb340, 1, none⟩ = some (.int .i64 t338) := (blk_cell BK340.out 1).trans rfl
                          have hfz94_0 := blk_frozen BK340.out 0
                          have hfz94_1 := blk_frozen BK340.out 1
                          have hcz95_0 : wc.cell? ⟨gb341, 0, none⟩ = some (.int .i64 x342000_38) := (blk_cell BK341.out 0).trans rfl
                          have hcz95_1 : wc.cell? ⟨gb341, 1, none⟩ = some (.int .i64 1) := (blk_cell BK341.out 1).trans rfl
                          have hfz95_0 := blk_frozen BK341.out 0
                          have hfz95_1 := blk_frozen BK341.out 1
                          go_wp2_with (first | (go_at_call 13; (with_reducible refine (shapesearchlaw13_awake.calls kj38  t343 _ A80.out).mono ?_); rintro e w96 ⟨rfl, hb⟩; have n0_ := Aside0.mk (blk_below (g := gb328) (o := .cells #[.int .i64 t325, .int .i64 t326] 29 (0, 0)) (by (with_reducible repeat (first | refine blk_drewN ?_ _ | refine blk_drew ?_ | refine blk_alloc ?_ _)); exact BK328.out) hb); have n1_ := Aside0.mk (blk_below (g := gb332) (o := .cells #[.int .i64 t329, .int .i64 t330] 29 (0, 0)) (by (with_reducible repeat (first | refine blk_drewN ?_ _ | refine blk_drew ?_ | refine blk_alloc ?_ _)); exact BK332.out) hb); have n2_ := Aside0.mk (blk_below (g := gb336) (o := .cells #[.int .i64 t333, .int .i64 t334] 29 (0, 0)) (by (with_reducible repeat (first | refine blk_drewN ?_ _ | refine blk_drew ?_ | refine blk_alloc ?_ _)); exact BK336.out) hb); have n3_ := Aside0.mk (blk_below (g := gb340) (o := .cells #[.int .i64 t337, .int .i64 t338] 29 (0, 0)) (by (with_reducible repeat (first | refine blk_drewN ?_ _ | refine blk_drew ?_ | refine blk_alloc ?_ _)); exact BK340.out) hb); have n4_ := Aside0.mk (blk_below (g := gb341) (o := .cells #[.int .i64 x342000_38, .int .i64 1] 29 (0, 0)) (by (with_reducible repeat (first | refine blk_drewN ?_ _ | refine blk_drew ?_ | refine blk_alloc ?_ _)); exact BK341.out) hb); have n5_ := Aside0.mk (below_step (by repeat (first | (with_reducible first | exact HB.out | apply below_alloc | apply pw_below_drewN | apply below_drew1 | refine below_set ?_ GE328.out | refine below_set ?_ GE332.out | refine below_set ?_ GE336.out | refine below_set ?_ GE340.out | refine below_set ?_ GE341.out) | exact HB.out)) hb); clear BK328; clear BK332; clear BK336; clear BK340; clear BK341; clear HB; have BK328 := n0_; have BK332 := n1_; have BK336 := n2_; have BK340 := n3_; have BK341 := n4_; have HB := n5_; clear n0_ n1_ n2_ n3_ n4_ n5_; (try clear hb); (try clear hb2); (try clear hk); (try clear hi)))
                          go_ret
                          exact ⟨by first | rfl | (simp [errW_none, errW_some] <;> rfl) | (simp [*, errW_none, errW_some] <;> rfl), by repeat (first | (with_reducible first | exact HB.out | apply below_alloc | apply pw_below_drewN | apply below_drew1 | refine below_set ?_ GE328.out | refine below_set ?_ GE332.out | refine below_set ?_ GE336.out | refine below_set ?_ GE340.out | refine below_set ?_ GE341.out) | exact HB.out)⟩
                        · rw [if_neg c79] at H
                          have c79b0 : (t337 == x342000_38 && (t338 == 1)) = false := by simpa using c79
                          (try (have c79b1 : decide (t337 = x342000_38 && (t338 == 1)) = false := by simpa using c79))
                          (try (have c79b2 : (t337 == x342000_38 && (t338 == 1)) = false := by simpa using c79))
                          (try (have c79b3 : ¬ (t337 = x342000_38 && (t338 == 1)) := by simpa using c79))
                          clear c79
                          obtain rfl := Option.some.inj H
                          have hnb97 := NB328_332.out
                          have hnc97 := NB332_328.out
                          have hnb98 := NB328_336.out
                          have hnc98 := NB336_328.out
                          have hnb99 := NB328_340.out
                          have hnc99 := NB340_328.out
                          have hnb100 := NB328_341.out
                          have hnc100 := NB341_328.out
                          have hcz101_0 : wc.cell? ⟨gb328, 0, none⟩ = some (.int .i64 t325) := (blk_cell BK328.out 0).trans rfl
                          have hcz101_1 : wc.cell? ⟨gb328, 1, none⟩ = some (.int .i64 t326) := (blk_cell BK328.out 1).trans rfl
                          have hfz101_0 := blk_frozen BK328.out 0
                          have hfz101_1 := blk_frozen BK328.out 1
                          have hnb102 := NB332_336.out
                          have hnc102 := NB336_332.out
                          have hnb103 := NB332_340.out
                          have hnc103 := NB340_332.out
                          have hnb104 := NB332_341.out
                          have hnc104 := NB341_332.out
                          have hcz105_0 : wc.cell? ⟨gb332, 0, none⟩ = some (.int .i64 t329) := (blk_cell BK332.out 0).trans rfl
                          have hcz105_1 : wc.cell? ⟨gb332, 1, none⟩ = some (.int .i64 t330) := (blk_cell BK332.out 1).trans rfl
                          have hfz105_0 := blk_frozen BK332.out 0
                          have hfz105_1 := blk_frozen BK332.out 1
                          have hnb106 := NB336_340.out
                          have hnc106 := NB340_336.out
                          have hnb107 := NB336_341.out
                          have hnc107 := NB341_336.out
                          have hcz108_0 : wc.cell? ⟨gb336, 0, none⟩ = some (.int .i64 t333) := (blk_cell BK336.out 0).trans rfl
                          have hcz108_1 : wc.cell? ⟨gb336, 1, none⟩ = some (.int .i64 t334) := (blk_cell BK336.out 1).trans rfl
                          have hfz108_0 := blk_frozen BK336.out 0
                          have hfz108_1 := blk_frozen BK336.out 1
                          have hnb109 := NB340_341.out
                          have hnc109 := NB341_340.out
                          have hcz110_0 : wc.cell? ⟨gb340, 0, none⟩ = some (.int .i64 t337) := (blk_cell BK340.out 0).trans rfl
                          have hcz110_1 : wc.cell? ⟨gb340, 1, none⟩ = some (.int .i64 t338) := (blk_cell BK340.out 1).trans rfl
                          have hfz110_0 := blk_frozen BK340.out 0
                          have hfz110_1 := blk_frozen BK340.out 1
                          have hcz111_0 : wc.cell? ⟨gb341, 0, none⟩ = some (.int .i64 x342000_38) := (blk_cell BK341.out 0).trans rfl
                          have hcz111_1 : wc.cell? ⟨gb341, 1, none⟩ = some (.int .i64 1) := (blk_cell BK341.out 1).trans rfl
                          have hfz111_0 := blk_frozen BK341.out 0
                          have hfz111_1 := blk_frozen BK341.out 1
                          go_wp2
                          go_ret
                          exact ⟨by first | rfl | (simp [errW_none, errW_some] <;> rfl) | (simp [*, errW_none, errW_some] <;> rfl), by repeat (first | (with_reducible first | exact HB.out | apply below_alloc | apply pw_below_drewN | apply below_drew1 | refine below_set ?_ GE328.out | refine below_set ?_ GE332.out | refine below_set ?_ GE336.out | refine below_set ?_ GE340.out | refine below_set ?_ GE341.out) | exact HB.out)⟩
                      · rw [if_neg c78] at H
                        have c78b0 : (t333 == 0 && (t334 == 1)) = false := by simpa using c78
                        (try (have c78b1 : decide (t333 = 0 && (t334 == 1)) = false := by simpa using c78))
                        (try (have c78b2 : (t333 == 0 && (t334 == 1)) = false := by simpa using c78))
                        (try (have c78b3 : ¬ (t333 = 0 && (t334 == 1)) := by simpa using c78))
                        clear c78
                        obtain rfl := Option.some.inj H
                        have hnb112 := NB328_332.out
                        have hnc112 := NB332_328.out
                        have hnb113 := NB328_336.out
                        have hnc113 := NB336_328.out
                        have hnb114 := NB328_340.out
                        have hnc114 := NB340_328.out
                        have hnb115 := NB328_341.out
                        have hnc115 := NB341_328.out
                        have hcz116_0 : wc.cell? ⟨gb328, 0, none⟩ = some (.int .i64 t325) := (blk_cell BK328.out 0).trans rfl
                        have hcz116_1 : wc.cell? ⟨gb328, 1, none⟩ = some (.int .i64 t326) := (blk_cell BK328.out 1).trans rfl
                        have hfz116_0 := blk_frozen BK328.out 0
                        have hfz116_1 := blk_frozen BK328.out 1
                        have hnb117 := NB332_336.out
                        have hnc117 := NB336_332.out
                        have hnb118 := NB332_340.out
                        have hnc118 := NB340_332.out
                        have hnb119 := NB332_341.out
                        have hnc119 := NB341_332.out
                        have hcz120_0 : wc.cell? ⟨gb332, 0, none⟩ = some (.int .i64 t329) := (blk_cell BK332.out 0).trans rfl
                        have hcz120_1 : wc.cell? ⟨gb332, 1, none⟩ = some (.int .i64 t330) := (blk_cell BK332.out 1).trans rfl
                        have hfz120_0 := blk_frozen BK332.out 0
                        have hfz120_1 := blk_frozen BK332.out 1
                        have hnb121 := NB336_340.out
                        have hnc121 := NB340_336.out
                        have hnb122 := NB336_341.out
                        have hnc122 := NB341_336.out
                        have hcz123_0 : wc.cell? ⟨gb336, 0, none⟩ = some (.int .i64 t333) := (blk_cell BK336.out 0).trans rfl
                        have hcz123_1 : wc.cell? ⟨gb336, 1, none⟩ = some (.int .i64 t334) := (blk_cell BK336.out 1).trans rfl
                        have hfz123_0 := blk_frozen BK336.out 0
                        have hfz123_1 := blk_frozen BK336.out 1
                        go_wp2
                        go_ret
                        exact ⟨by first | rfl | (simp [errW_none, errW_some] <;> rfl) | (simp [*, errW_none, errW_some] <;> rfl), by repeat (first | (with_reducible first | exact HB.out | apply below_alloc | apply pw_below_drewN | apply below_drew1 | refine below_set ?_ GE328.out | refine below_set ?_ GE332.out | refine below_set ?_ GE336.out | refine below_set ?_ GE340.out | refine below_set ?_ GE341.out) | exact HB.out)⟩
                    · rw [if_neg c77] at H
                      have c77b0 : (t325 == t329 && (t326 == t330)) = false := by simpa using c77
                      (try (have c77b1 : decide (t325 = t329 && (t326 == t330)) = false := by simpa using c77))
                      (try (have c77b2 : (t325 == t329 && (t326 == t330)) = false := by simpa using c77))
                      (try (have c77b3 : ¬ (t325 = t329 && (t326 == t330)) := by simpa using c77))
                      clear c77
                      obtain rfl := Option.some.inj H
                      have hnb124 := NB328_332.out
                      have hnc124 := NB332_328.out
                      have hnb125 := NB328_336.out
                      have hnc125 := NB336_328.out
                      have hnb126 := NB328_340.out
                      have hnc126 := NB340_328.out
                      have hnb127 := NB328_341.out
                      have hnc127 := NB341_328.out
                      have hcz128_0 : wc.cell? ⟨gb328, 0, none⟩ = some (.int .i64 t325) := (blk_cell BK328.out 0).trans rfl
                      have hcz128_1 : wc.cell? ⟨gb328, 1, none⟩ = some (.int .i64 t326) := (blk_cell BK328.out 1).trans rfl
                      have hfz128_0 := blk_frozen BK328.out 0
                      have hfz128_1 := blk_frozen BK328.out 1
                      have hnb129 := NB332_336.out
                      have hnc129 := NB336_332.out
                      have hnb130 := NB332_340.out
                      have hnc130 := NB340_332.out
                      have hnb131 := NB332_341.out
                      have hnc131 := NB341_332.out
                      have hcz132_0 : wc.cell? ⟨gb332, 0, none⟩ = some (.int .i64 t329) := (blk_cell BK332.out 0).trans rfl
                      have hcz132_1 : wc.cell? ⟨gb332, 1, none⟩ = some (.int .i64 t330) := (blk_cell BK332.out 1).trans rfl
                      have hfz132_0 := blk_frozen BK332.out 0
                      have hfz132_1 := blk_frozen BK332.out 1
                      go_wp2
                      go_ret
                      exact ⟨by first | rfl | (simp [errW_none, errW_some] <;> rfl) | (simp [*, errW_none, errW_some] <;> rfl), by repeat (first | (with_reducible first | exact HB.out | apply below_alloc | apply pw_below_drewN | apply below_drew1 | refine below_set ?_ GE328.out | refine below_set ?_ GE332.out | refine below_set ?_ GE336.out | refine below_set ?_ GE340.out | refine below_set ?_ GE341.out) | exact HB.out)⟩
                  · rw [if_neg c76] at H
                    have c76b0 : (t339 == 0) = false := beq_eq_false_iff_ne.mpr c76
                    have c76b1 : (t339 != 0) = true := bne_iff_ne.mpr c76
                    obtain rfl := Option.some.inj H
                    go_wp2
                    go_ret
                    exact ⟨by first | rfl | (simp [errW_none, errW_some] <;> rfl) | (simp [*, errW_none, errW_some] <;> rfl), by repeat (first | (with_reducible first | exact HB.out | apply below_alloc | apply pw_below_drewN | apply below_drew1 | refine below_set ?_ GE328.out | refine below_set ?_ GE332.out | refine below_set ?_ GE336.out | refine below_set ?_ GE340.out | refine below_set ?_ GE341.out) | exact HB.out)⟩
                · rw [if_neg c75] at H
                  have c75b0 : (t335 == 0) = false := beq_eq_false_iff_ne.mpr c75
                  have c75b1 : (t335 != 0) = true := bne_iff_ne.mpr c75
                  obtain rfl := Option.some.inj H
                  go_wp2
                  go_ret
                  exact ⟨by first | rfl | (simp [errW_none, errW_some] <;> rfl) | (simp [*, errW_none, errW_some] <;> rfl), by repeat (first | (with_reducible first | exact HB.out | apply below_alloc | apply pw_below_drewN | apply below_drew1 | refine below_set ?_ GE328.out | refine below_set ?_ GE332.out | refine below_set ?_ GE336.out | refine below_set ?_ GE340.out | refine below_set ?_ GE341.out) | exact HB.out)⟩
              · rw [if_neg c74] at H
                have c74b0 : (t331 == 0) = false := beq_eq_false_iff_ne.mpr c74
                have c74b1 : (t331 != 0) = true := bne_iff_ne.mpr c74
                obtain rfl := Option.some.inj H
                go_wp2
                go_ret
                exact ⟨by first | rfl | (simp [errW_none, errW_some] <;> rfl) | (simp [*, errW_none, errW_some] <;> rfl), by repeat (first | (with_reducible first | exact HB.out | apply below_alloc | apply pw_below_drewN | apply below_drew1 | refine below_set ?_ GE328.out | refine below_set ?_ GE332.out | refine below_set ?_ GE336.out | refine below_set ?_ GE340.out | refine below_set ?_ GE341.out) | exact HB.out)⟩
            · rw [if_neg c73] at H
              have c73b0 : (t327 == 0) = false := beq_eq_false_iff_ne.mpr c73
              have c73b1 : (t327 != 0) = true := bne_iff_ne.mpr c73
              obtain rfl := Option.some.inj H
              go_wp2
              go_ret
              exact ⟨by first | rfl | (simp [errW_none, errW_some] <;> rfl) | (simp [*, errW_none, errW_some] <;> rfl), by repeat (first | (with_reducible first | exact HB.out | apply below_alloc | apply pw_below_drewN | apply below_drew1 | refine below_set ?_ GE328.out | refine below_set ?_ GE332.out | refine below_set ?_ GE336.out | refine below_set ?_ GE340.out | refine below_set ?_ GE341.out) | exact HB.out)⟩

/-- THE ONE PURE STATEMENT of shapesearchlaw13_NormalScales: yours. -/
def shapesearchlaw13_NormalScales.Pure : Prop := ∀ (l0 : List Int) (a1 : Int) (a2 : Int), l0.length ≤ maxLen → l0.length * 8 ≤ 140737488351232 → (∀ x ∈ l0, (Lit.int .i64 x).wf = true) → (Lit.int .u8 a1).wf = true → (Lit.int .i8 a2).wf = true → ∃ k, shapesearchlaw13_NormalScales.f k l0 a1 a2 = some true
theorem shapesearchlaw13_NormalScales.walk (P : shapesearchlaw13_NormalScales.Pure) (a0 : Option Addr) (len0 cap0 : Nat) (z0 : List Int) (a1 : Int) (a2 : Int) (w : World) (w0 : (a0 = none ∧ len0 = 0 ∧ cap0 = 0 ∧ z0 = []) ∨ ∃ x, a0 = some x ∧ len0 ≤ cap0 ∧ cap0 ≤ maxLen ∧ z0.length = cap0 ∧ (∀ i, i < z0.length → w.cell? (x.add i) = some (.int .i64 (z0.getD i 0))) ∧ ∀ n ∈ z0, (Lit.int .i64 n).wf = true) (y0 : len0 * 8 ≤ 140737488351232) (w1 : (Lit.int .u8 a1).wf = true) (w2 : (Lit.int .i8 a2).wf = true) :
    Calls Try.prog 3 #[.slice a0 len0 cap0, .int .u8 a1, .int .i8 a2] w fun e w' => e = .returned (.bool true) ∧ Below w.heap.size w w' := by
  obtain ⟨l0, rfl, hr0, hm0, hw0, hc0⟩ := ReadsInt.ofRowC w0
  obtain ⟨k, h⟩ := P l0 a1 a2 hm0 y0 hw0 w1 w2
  refine (shapesearchlaw13_NormalScales.calls k _ _ l0 a1 a2 true w (Kd.C_of_reads (d := (0 : Int)) (h1 := fun _ => rfl) hr0) hc0 h).mono ?_
  rintro e w' ⟨rfl, hd⟩
  exact ⟨rfl, hd⟩

end Go.Proofs.Ytmckmjpfcgmalaa.PNormalScales
