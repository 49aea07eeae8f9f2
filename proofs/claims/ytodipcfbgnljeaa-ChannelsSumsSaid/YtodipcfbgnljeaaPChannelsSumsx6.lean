/- This file proves, function by function, what the Go functions that one law uses compute; most of it was printed by a program (wip/tools of this session, over the kit's print). -/
import Derived.Test.YtodipcfbgnljeaaPChannelsSumsx0
import Derived.Test.YtodipcfbgnljeaaPChannelsSumsx1
import Derived.Test.YtodipcfbgnljeaaPChannelsSumsx3
import Derived.Test.YtodipcfbgnljeaaPChannelsSumsx4
import Derived.Test.YtodipcfbgnljeaaPChannelsSumsx5
namespace Go.Proofs.Ytodipcfbgnljeaa.PChannelsSums
open Go.RowKit Go.Proofs.YtodipcfbgnljeaaW.PrintWords Go.Proofs.YtodipcfbgnljeaaW.PrintLast Go.Proofs.YtodipcfbgnljeaaW.PrintMore
attribute [local go_sem] max2_int min2_int max_two min_two max_three min_three max_four min_four   -- for this text's walks alone
set_option linter.unusedVariables false
set_option linter.unusedSimpArgs false

/-! ### shapesearchlaw16_ChannelsSums: function 4 -/
def shapesearchlaw16_ChannelsSums.l0 : Nat → List (List Int) → List (List Int) → Int → Int → Int → Int → Int → Int → Int → Option (Bool)
  | 0, _, _, _, _, _, _, _, _, _ => none
  | k + 1, x3, x4, x5, x6, x7, x8, x9, x30, x31 => if x31 < x30 then (if 0 ≤ x31 then (if x31 ≤ (wrap64 (x31 + 1)) then (if (wrap64 (x31 + 1)) ≤ (x3.length : Int) then (if (wrap64 (x31 + 1)) ≤ (x4.length : Int) then ((channels_Apart.f k ((x3.take ((wrap64 (x31 + 1)) : Int).toNat).drop (x31 : Int).toNat) ((x4.take ((wrap64 (x31 + 1)) : Int).toNat).drop (x31 : Int).toNat) x5).bind fun bt298 => (if bt298.2 = 0 then (if 0 < (x3.length : Int) then (if 0 < (x4.length : Int) then (if ((rd_L1 x3 0).length : Int) = ((rd_L1 x4 0).length : Int) then ((channels_Euclid.f k ((x3.take ((wrap64 (x31 + 1)) : Int).toNat).drop (x31 : Int).toNat) ((x4.take ((wrap64 (x31 + 1)) : Int).toNat).drop (x31 : Int).toNat)).bind fun bt310 => (if bt310.2 = 0 then (shapesearchlaw16_ChannelsSums.l0 k x3 x4 x5 x6 x7 (wrap64 (x8 + bt298.1)) (wrap64 (x9 + bt310.1)) x30 (wrap64 (x31 + 1))) else (some false))) else (shapesearchlaw16_ChannelsSums.l0 k x3 x4 x5 x6 x7 (wrap64 (x8 + bt298.1)) x9 x30 (wrap64 (x31 + 1)))) else (none)) else (none)) else (some false))) else (none)) else (none)) else (none)) else (none)) else (if 0 < (x3.length : Int) then (if 0 < (x4.length : Int) then (if ((rd_L1 x3 0).length : Int) = ((rd_L1 x4 0).length : Int) then ((channels_Euclid.f k x3 x4).bind fun bt314 => (if x7 = 0 then (if bt314.2 = 0 then (if x6 = x8 then (if bt314.1 = x9 then ((shapesearchlaw16_awake.f k).bind fun t316 => (some t316)) else (some false)) else (some false)) else (some false)) else (some false))) else (if x7 = 0 then (if x6 = x8 then ((shapesearchlaw16_awake.f k).bind fun t317 => (some t317)) else (some false)) else (some false))) else (none)) else (none))
def shapesearchlaw16_ChannelsSums.f (k : Nat) (l0 : List Int) : Option (Bool) := (shapesearchkeep_New.f l0).bind fun bt277 => ((shapesearchlaw16_bundles.f k bt277.1 bt277.2).bind fun bt280 => ((channels_Apart.f k bt280.1 bt280.2.1 bt280.2.2.1).bind fun bt288 => (shapesearchlaw16_ChannelsSums.l0 k bt280.1 bt280.2.1 bt280.2.2.1 bt288.1 bt288.2 0 0 (bt280.1.length : Int) 0)))
theorem shapesearchlaw16_ChannelsSums.mono_l : ∀ k, (∀ y0 y1 y2 y3 y4 y5 y6 y7 y8, LeO (shapesearchlaw16_ChannelsSums.l0 k y0 y1 y2 y3 y4 y5 y6 y7 y8) (shapesearchlaw16_ChannelsSums.l0 (k + 1) y0 y1 y2 y3 y4 y5 y6 y7 y8))
  | 0 => fun _ _ _ _ _ _ _ _ _ r h => by simp [shapesearchlaw16_ChannelsSums.l0] at h
  | k + 1 => by
    have ih0 := shapesearchlaw16_ChannelsSums.mono_l k
    · intro y0 y1 y2 y3 y4 y5 y6 y7 y8
      unfold shapesearchlaw16_ChannelsSums.l0
      repeat' first
      | (with_reducible exact ih0 _ _ _ _ _ _ _ _ _)
      | (with_reducible exact channels_Apart.mono _ _ _ _)
      | (with_reducible exact channels_Euclid.mono _ _ _)
      | (with_reducible exact shapesearchlaw16_awake.mono _)
      | (with_reducible exact shapesearchlaw16_bundles.mono _ _ _)
      | (with_reducible exact LeO.refl _)
      | (with_reducible exact LeO.none _)
      | (with_reducible refine LeO.ite ?_ ?_)
      | (with_reducible refine LeO.bind ?_ (fun _ => ?_))
      | exact ih0 _ _ _ _ _ _ _ _ _
      | exact channels_Apart.mono _ _ _ _
      | exact channels_Euclid.mono _ _ _
      | exact shapesearchlaw16_awake.mono _
      | exact shapesearchlaw16_bundles.mono _ _ _
      | exact LeO.none _
      | refine LeO.ite ?_ ?_
      | refine LeO.bind ?_ (fun _ => ?_)
theorem shapesearchlaw16_ChannelsSums.mono : ∀ a0 k, LeO (shapesearchlaw16_ChannelsSums.f k a0) (shapesearchlaw16_ChannelsSums.f (k + 1) a0) := by
  intro a0 k
  have ih0 := shapesearchlaw16_ChannelsSums.mono_l k
  unfold shapesearchlaw16_ChannelsSums.f
  repeat' first
      | (with_reducible exact ih0 _ _ _ _ _ _ _ _ _)
      | (with_reducible exact channels_Apart.mono _ _ _ _)
      | (with_reducible exact channels_Euclid.mono _ _ _)
      | (with_reducible exact shapesearchlaw16_awake.mono _)
      | (with_reducible exact shapesearchlaw16_bundles.mono _ _ _)
      | (with_reducible exact LeO.refl _)
      | (with_reducible exact LeO.none _)
      | (with_reducible refine LeO.ite ?_ ?_)
      | (with_reducible refine LeO.bind ?_ (fun _ => ?_))
      | exact ih0 _ _ _ _ _ _ _ _ _
      | exact channels_Apart.mono _ _ _ _
      | exact channels_Euclid.mono _ _ _
      | exact shapesearchlaw16_awake.mono _
      | exact shapesearchlaw16_bundles.mono _ _ _
      | exact LeO.none _
      | refine LeO.ite ?_ ?_
      | refine LeO.bind ?_ (fun _ => ?_)
def shapesearchlaw16_ChannelsSums.T7 : Bool × List (List Nat × List Nat) := (true, [([], []), ([], []), ([], []), ([2], [2]), ([0, 1, 3], [0, 1, 3]), ([], []), ([], []), ([], []), ([7], [7]), ([5, 6, 8], [5, 6, 8]), ([], []), ([4, 9, 10], [4, 9, 10]), ([11], [11]), ([12], [12]), ([12], [12]), ([13, 11, 0, 1, 2, 3, 4, 5, 6, 7, 8, 9, 10, 11, 12, 13], [13]), ([14, 15, 0, 1, 2, 3, 4, 5, 6, 7, 8, 9, 10, 11, 12, 13, 14, 15], [14])])
def shapesearchlaw16_ChannelsSums.B7 : List Nat := [0, 0, 0, 4, 15, 0, 0, 0, 128, 480, 0, 2047, 4095, 8191, 8191, 16383, 65535]
theorem shapesearchlaw16_ChannelsSums.tab7 : rtab .any (opsOf Try.f4 7) = shapesearchlaw16_ChannelsSums.T7 := by kernel_rfl
theorem shapesearchlaw16_ChannelsSums.bits7 : waitsOk shapesearchlaw16_ChannelsSums.T7.2 shapesearchlaw16_ChannelsSums.B7 = true := by kernel_rfl
def shapesearchlaw16_ChannelsSums.T11 : Bool × List (List Nat × List Nat) := (true, [([], []), ([0], [0]), ([1], [1]), ([2], [2]), ([], []), ([4], [4]), ([5], [5]), ([6], [6]), ([3, 7], [3, 7])])
def shapesearchlaw16_ChannelsSums.B11 : List Nat := [0, 1, 3, 7, 0, 16, 48, 112, 255]
theorem shapesearchlaw16_ChannelsSums.tab11 : rtab .any (opsOf Try.f4 11) = shapesearchlaw16_ChannelsSums.T11 := by kernel_rfl
theorem shapesearchlaw16_ChannelsSums.bits11 : waitsOk shapesearchlaw16_ChannelsSums.T11.2 shapesearchlaw16_ChannelsSums.B11 = true := by kernel_rfl
def shapesearchlaw16_ChannelsSums.T12 : Bool × List (List Nat × List Nat) := (true, [([], []), ([], []), ([], []), ([2], [2]), ([0, 1, 3], [0, 1, 3]), ([], []), ([], []), ([], []), ([7], [7]), ([5, 6, 8], [5, 6, 8]), ([4, 9], [4, 9]), ([10], [10]), ([11], [11]), ([11], [11]), ([12, 10, 0, 1, 2, 3, 4, 5, 6, 7, 8, 9, 10, 11, 12], [12]), ([13, 14, 0, 1, 2, 3, 4, 5, 6, 7, 8, 9, 10, 11, 12, 13, 14], [13])])
def shapesearchlaw16_ChannelsSums.B12 : List Nat := [0, 0, 0, 4, 15, 0, 0, 0, 128, 480, 1023, 2047, 4095, 4095, 8191, 32767]
theorem shapesearchlaw16_ChannelsSums.tab12 : rtab .any (opsOf Try.f4 12) = shapesearchlaw16_ChannelsSums.T12 := by kernel_rfl
theorem shapesearchlaw16_ChannelsSums.bits12 : waitsOk shapesearchlaw16_ChannelsSums.T12.2 shapesearchlaw16_ChannelsSums.B12 = true := by kernel_rfl
def shapesearchlaw16_ChannelsSums.T17 : Bool × List (List Nat × List Nat) := (true, [([], []), ([0], [0]), ([1], [1]), ([2], [2]), ([], []), ([4], [4]), ([5], [5]), ([6], [6]), ([3, 7], [3, 7])])
def shapesearchlaw16_ChannelsSums.B17 : List Nat := [0, 1, 3, 7, 0, 16, 48, 112, 255]
theorem shapesearchlaw16_ChannelsSums.tab17 : rtab .any (opsOf Try.f4 17) = shapesearchlaw16_ChannelsSums.T17 := by kernel_rfl
theorem shapesearchlaw16_ChannelsSums.bits17 : waitsOk shapesearchlaw16_ChannelsSums.T17.2 shapesearchlaw16_ChannelsSums.B17 = true := by kernel_rfl
set_option maxHeartbeats 8000000 in
set_option maxRecDepth 100000 in
theorem shapesearchlaw16_ChannelsSums.calls (k : Nat) (A0 : Option Addr) (c0 : Nat) (l0 : List Int) (r : Bool) (w : World) (hr0 : Kd.C (Kd.int .i64) w A0 l0.length l0) (hc0 : l0.length ≤ c0) (h : shapesearchlaw16_ChannelsSums.f k l0 = some r) (hT_ : r = true) :
    Calls Try.prog 4 #[.slice A0 l0.length c0] w fun e w' => e = .returned (.bool r) ∧ Below w.heap.size w w' := by
  have HTR_ := Aside0.mk hT_
  clear hT_
  have HR0 := Aside0.mk hr0
  have HC0 := Aside0.mk hc0
  clear hr0 hc0
  have HB := Aside0.mk (Below.refl w.heap.size w)
  have H : ((shapesearchkeep_New.f l0).bind fun bt277 => ((shapesearchlaw16_bundles.f k bt277.1 bt277.2).bind fun bt280 => ((channels_Apart.f k bt280.1 bt280.2.1 bt280.2.2.1).bind fun bt288 => (shapesearchlaw16_ChannelsSums.l0 k bt280.1 bt280.2.1 bt280.2.2.1 bt288.1 bt288.2 0 0 (bt280.1.length : Int) 0)))) = some r := h
  clear h
  replace H := Option.bind_eq_some_iff.mp H
  obtain ⟨⟨t277, t278⟩, A20, H⟩ := H
  replace H : ((shapesearchlaw16_bundles.f k t277 t278).bind fun bt280 => ((channels_Apart.f k bt280.1 bt280.2.1 bt280.2.2.1).bind fun bt288 => (shapesearchlaw16_ChannelsSums.l0 k bt280.1 bt280.2.1 bt280.2.2.1 bt288.1 bt288.2 0 0 (bt280.1.length : Int) 0))) = some r := H
  have A2 := Aside0.mk A20
  clear A20
  replace H := Option.bind_eq_some_iff.mp H
  obtain ⟨⟨t280, t283, t286, t287⟩, A30, H⟩ := H
  replace H : ((channels_Apart.f k t280 t283 t286).bind fun bt288 => (shapesearchlaw16_ChannelsSums.l0 k t280 t283 t286 bt288.1 bt288.2 0 0 (t280.length : Int) 0)) = some r := H
  have A3 := Aside0.mk A30
  clear A30
  replace H := Option.bind_eq_some_iff.mp H
  obtain ⟨⟨t288, t289⟩, A40, H⟩ := H
  replace H : (shapesearchlaw16_ChannelsSums.l0 k t280 t283 t286 t288 t289 0 0 (t280.length : Int) 0) = some r := H
  have A4 := Aside0.mk A40
  clear A40
  have H' := Aside0.mk H
  clear H
  go_enter Try.func4, Try.ntmps4
  go_wp2_with (first | ((with_reducible refine gate_callee (f := 10) rfl ?_); refine goesL_ (some 17) rfl rfl Try.func10 (by kernel_rfl) rfl #[.slice A0 l0.length c0] rfl (by (try simp only [List.map_toArray, List.map_cons, List.map_nil]); first | done | rfl | (simp only [List.length_drop, List.length_take]; rfl) | ((try rw [KY31.out]); (try rw [KY32.out]); (try rw [KY36.out]); (try rw [KY37.out]); (try rw [KY40.out]); (try rw [KY41.out]); rfl)) ?_; (with_reducible refine (shapesearchkeep_New.calls _ _ l0 t277 t278 w _ ?side1 ?side2 ?side3 A2.out).mono ?_); (case side1 => repeat (first | (with_reducible first | exact HB.out | apply below_alloc | apply pw_below_drewN | apply below_drew1) | exact HB.out)); (case side2 => exact HR0.out); (case side3 => exact HC0.out); rintro e w5 ⟨g279, rfl, hi, hb, hb2⟩; refine ⟨_, rfl, ?_⟩; have n0_ := Aside0.mk (hb); have n1_ := Aside0.mk (hi); clear HB; have HB := n0_; have HI279 := n1_; clear n0_ n1_; (try clear hb); (try clear hb2); (try clear hk); (try clear hi)) | ((with_reducible refine gate_callee (f := 9) rfl ?_); refine goesL_ (some 18) rfl rfl Try.func9 (by kernel_rfl) rfl #[.pointer (some ⟨g279, 0, none⟩)] rfl (by (try simp only [List.map_toArray, List.map_cons, List.map_nil]); first | done | rfl | (simp only [List.length_drop, List.length_take]; rfl) | ((try rw [KY31.out]); (try rw [KY32.out]); (try rw [KY36.out]); (try rw [KY37.out]); (try rw [KY40.out]); (try rw [KY41.out]); rfl)) ?_; (with_reducible refine (shapesearchlaw16_bundles.calls k g279 t277 t278 t280 t283 t286 t287 w _ ?side1 ?side2 A3.out).mono ?_); (case side1 => repeat (first | (with_reducible first | exact HI279.out | apply IsS56.alloc | apply IsS56.drewN | apply IsS56.drew | apply IsS56.set_1) | exact HI279.out)); (case side2 => repeat (first | (with_reducible first | exact HB.out | apply below_alloc | apply pw_below_drewN | apply below_drew1 | refine below_set ?_ (IsS56.ge HI279.out)) | exact HB.out)); rintro e w6 ⟨v281, v284, rfl, ho0, ho1, hi, hb, hk⟩; refine ⟨_, rfl, ?_⟩; have n0_ := Aside0.mk (Kd.S_lower ho0 (below_size (by repeat (first | (with_reducible first | exact HB.out | apply below_alloc | apply pw_below_drewN | apply below_drew1 | refine below_set ?_ (IsS56.ge HI279.out)) | exact HB.out)))); have n1_ := Aside0.mk (Kd.S_lower ho1 (below_size (by repeat (first | (with_reducible first | exact HB.out | apply below_alloc | apply pw_below_drewN | apply below_drew1 | refine below_set ?_ (IsS56.ge HI279.out)) | exact HB.out)))); have n2_ := Aside0.mk (hb); have n3_ := Aside0.mk (hi); clear HB; clear HI279; have HO282 := n0_; have HO285 := n1_; have HB := n2_; have HI279 := n3_; clear n0_ n1_ n2_ n3_; (try clear hb); (try clear hb2); (try clear hk); (try clear hi); (try clear ho0); (try clear ho1); obtain ⟨Ao7, co7, eo7⟩ := Kd.S_slice HO282.out; subst eo7; obtain ⟨Ao8, co8, eo8⟩ := Kd.S_slice HO285.out; subst eo8) | ((with_reducible refine gate_callee (f := 11) rfl ?_); refine goesL_ (some 26) rfl rfl Try.func11 (by kernel_rfl) rfl #[.slice Ao7 t280.length co7, .slice Ao8 t283.length co8, .int .i64 t286] rfl (by (try simp only [List.map_toArray, List.map_cons, List.map_nil]); first | done | rfl | (simp only [List.length_drop, List.length_take]; rfl) | ((try rw [KY31.out]); (try rw [KY32.out]); (try rw [KY36.out]); (try rw [KY37.out]); (try rw [KY40.out]); (try rw [KY41.out]); rfl)) ?_; (with_reducible refine (channels_Apart.calls k _ _ t280 _ _ t283 t286 t288 t289 _ ?side1 ?side2 ?side3 ?side4 A4.out).mono ?_); (case side1 => repeat (first | exact (Kd.S_reads' HO282.out).2.2 | (with_reducible refine Kd.C_alloc ?_ _) | (with_reducible refine Kd.C_drewN ?_ _) | (with_reducible refine Kd.C_drew ?_))); (case side2 => exact (Kd.S_reads' HO282.out).2.1); (case side3 => repeat (first | exact (Kd.S_reads' HO285.out).2.2 | (with_reducible refine Kd.C_alloc ?_ _) | (with_reducible refine Kd.C_drewN ?_ _) | (with_reducible refine Kd.C_drew ?_))); (case side4 => exact (Kd.S_reads' HO285.out).2.1); rintro e w9 ⟨rfl, hb⟩; refine ⟨_, rfl, ?_⟩; have n0_ := Aside0.mk (Kd.S_below (by (with_reducible repeat (first | apply Kd.S_alloc | apply Kd.S_drewN | apply Kd.S_drew)); exact HO282.out) hb); have n1_ := Aside0.mk (Kd.S_below (by (with_reducible repeat (first | apply Kd.S_alloc | apply Kd.S_drewN | apply Kd.S_drew)); exact HO285.out) hb); have n2_ := Aside0.mk (IsS56.below (by repeat (first | (with_reducible first | exact HI279.out | apply IsS56.alloc | apply IsS56.drewN | apply IsS56.drew | apply IsS56.set_1) | exact HI279.out)) hb); have n3_ := Aside0.mk (below_step (by repeat (first | (with_reducible first | exact HB.out | apply below_alloc | apply pw_below_drewN | apply below_drew1 | refine below_set ?_ (IsS56.ge HI279.out)) | exact HB.out)) hb); clear HO282; clear HO285; clear HI279; clear HB; have HO282 := n0_; have HO285 := n1_; have HI279 := n2_; have HB := n3_; clear n0_ n1_ n2_ n3_; (try clear hb); (try clear hb2); (try clear hk); (try clear hi)))
  go_loopg [8, 9, 31] k (fun kq v8 v9 v31 w' => ∃ (x8_1 : Int) (x9_1 : Int) (x31_1 : Int), v8 = .int .i64 x8_1 ∧ v9 = .int .i64 x9_1 ∧ v31 = .int .i64 x31_1 ∧ Aside0 (shapesearchlaw16_ChannelsSums.l0 kq t280 t283 t286 t288 t289 x8_1 x9_1 (t280.length : Int) x31_1 = some r) ∧ Aside0 (kq ≤ k) ∧ Aside0 (Kd.S (Kd.slice 3 (Kd.int .i64)) 22 w' w.heap.size (fun k_ => some k_ ≠ ((.slice Ao8 t283.length co8) : Value).ownBlock) (.slice Ao7 t280.length co7) t280) ∧ Aside0 (Kd.S (Kd.slice 3 (Kd.int .i64)) 22 w' w.heap.size (fun k_ => some k_ ≠ ((.slice Ao7 t280.length co7) : Value).ownBlock) (.slice Ao8 t283.length co8) t283) ∧ Aside0 (Below w.heap.size w w'))
  case atStart => exact ⟨(0), (0), (0), (by first | rfl | (simp; done) | (simp [*]; done)), (by first | rfl | (simp; done) | (simp [*]; done)), (by first | rfl | (simp; done) | (simp [*]; done)), H', ⟨Nat.le_refl _⟩, ⟨by (with_reducible repeat (first | apply Kd.S_alloc | apply Kd.S_drewN | apply Kd.S_drew)); exact HO282.out⟩, ⟨by (with_reducible repeat (first | apply Kd.S_alloc | apply Kd.S_drewN | apply Kd.S_drew)); exact HO285.out⟩, ⟨by repeat (first | (with_reducible first | exact HB.out | apply below_alloc | apply pw_below_drewN | apply below_drew1 | refine below_set ?_ (IsS56.ge HI279.out)) | exact HB.out)⟩⟩
  case round =>
    clear H'
    try clear c1
    try clear p2
    try clear c4
    try clear c9
    obtain ⟨x8_1, x9_1, x31_1, rfl, rfl, rfl, HA, HK1, HO_3, HO_4, HB⟩ := hrel
    cases gk with
    | zero => exact absurd HA.out (by simp [shapesearchlaw16_ChannelsSums.l0])
    | succ k1 =>
      have H := HA.out
      clear HA
      simp only [shapesearchlaw16_ChannelsSums.l0] at H
      by_cases c10 : x31_1 < (t280.length : Int)
      · rw [if_pos c10] at H
        have c10b0 : decide (x31_1 < (t280.length : Int)) = true := decide_eq_true c10
        clear c10
        by_cases c11 : 0 ≤ x31_1
        · rw [if_pos c11] at H
          have c11b0 := eq_true c11
          have c11b1 : decide (0 ≤ x31_1) = true := decide_eq_true c11
          clear c11
          by_cases c12 : x31_1 ≤ (wrap64 (x31_1 + 1))
          · rw [if_pos c12] at H
            have c12b0 := eq_true c12
            have c12b1 : decide (x31_1 ≤ (wrap64 (x31_1 + 1))) = true := decide_eq_true c12
            by_cases c13 : (wrap64 (x31_1 + 1)) ≤ (t280.length : Int)
            · rw [if_pos c13] at H
              have c13b0 := eq_true c13
              have c13b1 : decide ((wrap64 (x31_1 + 1)) ≤ (t280.length : Int)) = true := decide_eq_true c13
              obtain ⟨y290, hy290⟩ : ∃ y_ : List (List Int), y_ = ((t280.take ((wrap64 (x31_1 + 1)) : Int).toNat).drop (x31_1 : Int).toNat) := ⟨_, rfl⟩
              replace H : (if (wrap64 (x31_1 + 1)) ≤ (t283.length : Int) then ((channels_Apart.f k1 y290 ((t283.take ((wrap64 (x31_1 + 1)) : Int).toNat).drop (x31_1 : Int).toNat) t286).bind fun bt298 => (if bt298.2 = 0 then (if 0 < (t280.length : Int) then (if 0 < (t283.length : Int) then (if ((rd_L1 t280 0).length : Int) = ((rd_L1 t283 0).length : Int) then ((channels_Euclid.f k1 ((t280.take ((wrap64 (x31_1 + 1)) : Int).toNat).drop (x31_1 : Int).toNat) ((t283.take ((wrap64 (x31_1 + 1)) : Int).toNat).drop (x31_1 : Int).toNat)).bind fun bt310 => (if bt310.2 = 0 then (shapesearchlaw16_ChannelsSums.l0 k1 t280 t283 t286 t288 t289 (wrap64 (x8_1 + bt298.1)) (wrap64 (x9_1 + bt310.1)) (t280.length : Int) (wrap64 (x31_1 + 1))) else (some false))) else (shapesearchlaw16_ChannelsSums.l0 k1 t280 t283 t286 t288 t289 (wrap64 (x8_1 + bt298.1)) x9_1 (t280.length : Int) (wrap64 (x31_1 + 1)))) else (none)) else (none)) else (some false))) else (none)) = some r := by first | (rw [hy290]; with_reducible exact H) | (have H2_ := (Option.bind_some _ _).symm.trans H; rw [hy290]; with_reducible exact H2_) | (have H2_ := (Option.bind_some _ _).symm.trans H; with_reducible exact H2_) | with_reducible exact H | (rw [hy290]; exact H) | exact H
              have Ny290 := Aside0.mk hy290
              clear hy290
              have c14b0 := eq_true (of_decide_eq_true (by first | (with_reducible assumption) | assumption) : 0 ≤ x31_1)
              have c15b0 := eq_true (of_decide_eq_true (by first | (with_reducible assumption) | assumption) : x31_1 ≤ (wrap64 (x31_1 + 1)))
              by_cases c16 : (wrap64 (x31_1 + 1)) ≤ (t283.length : Int)
              · rw [if_pos c16] at H
                have c16b0 := eq_true c16
                have c16b1 : decide ((wrap64 (x31_1 + 1)) ≤ (t283.length : Int)) = true := decide_eq_true c16
                obtain ⟨y294, hy294⟩ : ∃ y_ : List (List Int), y_ = ((t283.take ((wrap64 (x31_1 + 1)) : Int).toNat).drop (x31_1 : Int).toNat) := ⟨_, rfl⟩
                replace H : ((channels_Apart.f k1 y290 y294 t286).bind fun bt298 => (if bt298.2 = 0 then (if 0 < (t280.length : Int) then (if 0 < (t283.length : Int) then (if ((rd_L1 t280 0).length : Int) = ((rd_L1 t283 0).length : Int) then ((channels_Euclid.f k1 ((t280.take ((wrap64 (x31_1 + 1)) : Int).toNat).drop (x31_1 : Int).toNat) ((t283.take ((wrap64 (x31_1 + 1)) : Int).toNat).drop (x31_1 : Int).toNat)).bind fun bt310 => (if bt310.2 = 0 then (shapesearchlaw16_ChannelsSums.l0 k1 t280 t283 t286 t288 t289 (wrap64 (x8_1 + bt298.1)) (wrap64 (x9_1 + bt310.1)) (t280.length : Int) (wrap64 (x31_1 + 1))) else (some false))) else (shapesearchlaw16_ChannelsSums.l0 k1 t280 t283 t286 t288 t289 (wrap64 (x8_1 + bt298.1)) x9_1 (t280.length : Int) (wrap64 (x31_1 + 1)))) else (none)) else (none)) else (some false))) = some r := by first | (rw [hy294]; with_reducible exact H) | (have H2_ := (Option.bind_some _ _).symm.trans H; rw [hy294]; with_reducible exact H2_) | (have H2_ := (Option.bind_some _ _).symm.trans H; with_reducible exact H2_) | with_reducible exact H | (rw [hy294]; exact H) | exact H
                have Ny294 := Aside0.mk hy294
                clear hy294
                replace H := Option.bind_eq_some_iff.mp H
                obtain ⟨⟨t298, t299⟩, A170, H⟩ := H
                replace H : (if t299 = 0 then (if 0 < (t280.length : Int) then (if 0 < (t283.length : Int) then (if ((rd_L1 t280 0).length : Int) = ((rd_L1 t283 0).length : Int) then ((channels_Euclid.f k1 ((t280.take ((wrap64 (x31_1 + 1)) : Int).toNat).drop (x31_1 : Int).toNat) ((t283.take ((wrap64 (x31_1 + 1)) : Int).toNat).drop (x31_1 : Int).toNat)).bind fun bt310 => (if bt310.2 = 0 then (shapesearchlaw16_ChannelsSums.l0 k1 t280 t283 t286 t288 t289 (wrap64 (x8_1 + t298)) (wrap64 (x9_1 + bt310.1)) (t280.length : Int) (wrap64 (x31_1 + 1))) else (some false))) else (shapesearchlaw16_ChannelsSums.l0 k1 t280 t283 t286 t288 t289 (wrap64 (x8_1 + t298)) x9_1 (t280.length : Int) (wrap64 (x31_1 + 1)))) else (none)) else (none)) else (some false)) = some r := H
                have A17 := Aside0.mk A170
                clear A170
                by_cases c18 : t299 = 0
                · rw [if_pos c18] at H
                  have c18b0 : (t299 == 0) = true := beq_iff_eq.mpr c18
                  have c18b1 : (t299 != 0) = false := bne_eq_false_iff_eq.mpr c18
                  clear c18
                  by_cases c19 : 0 < (t280.length : Int)
                  · rw [if_pos c19] at H
                    have c19b0 : decide (0 < (t280.length : Int)) = true := decide_eq_true c19
                    have c19b1 : decide (0 < t280.length) = true := decide_eq_true (by omega)
                    clear c19
                    by_cases c20 : 0 < (t283.length : Int)
                    · rw [if_pos c20] at H
                      have c20b0 : decide (0 < (t283.length : Int)) = true := decide_eq_true c20
                      have c20b1 : decide (0 < t283.length) = true := decide_eq_true (by omega)
                      clear c20
                      by_cases c21 : ((rd_L1 t280 0).length : Int) = ((rd_L1 t283 0).length : Int)
                      · rw [if_pos c21] at H
                        have c21b0 : (((rd_L1 t280 0).length : Int) == ((rd_L1 t283 0).length : Int)) = true := beq_iff_eq.mpr c21
                        have c21b1 : (((rd_L1 t280 0).length : Int) != ((rd_L1 t283 0).length : Int)) = false := bne_eq_false_iff_eq.mpr c21
                        have c21b2 : ((rd_L1 t280 0).length == (rd_L1 t283 0).length) = true := by first | simpa using c21 | (simp at c21 ⊢; omega)
                        clear c21
                        have c22b0 := eq_true (of_decide_eq_true (by first | (with_reducible assumption) | assumption) : 0 ≤ x31_1)
                        have c23b0 := eq_true (of_decide_eq_true (by first | (with_reducible assumption) | assumption) : x31_1 ≤ (wrap64 (x31_1 + 1)))
                        have c24b0 := eq_true (of_decide_eq_true (by first | (with_reducible assumption) | assumption) : (wrap64 (x31_1 + 1)) ≤ (t280.length : Int))
                        obtain ⟨y302, hy302⟩ : ∃ y_ : List (List Int), y_ = ((t280.take ((wrap64 (x31_1 + 1)) : Int).toNat).drop (x31_1 : Int).toNat) := ⟨_, rfl⟩
                        replace H : ((channels_Euclid.f k1 y302 ((t283.take ((wrap64 (x31_1 + 1)) : Int).toNat).drop (x31_1 : Int).toNat)).bind fun bt310 => (if bt310.2 = 0 then (shapesearchlaw16_ChannelsSums.l0 k1 t280 t283 t286 t288 t289 (wrap64 (x8_1 + t298)) (wrap64 (x9_1 + bt310.1)) (t280.length : Int) (wrap64 (x31_1 + 1))) else (some false))) = some r := by first | (rw [hy302]; with_reducible exact H) | (have H2_ := (Option.bind_some _ _).symm.trans H; rw [hy302]; with_reducible exact H2_) | (have H2_ := (Option.bind_some _ _).symm.trans H; with_reducible exact H2_) | with_reducible exact H | (rw [hy302]; exact H) | exact H
                        have Ny302 := Aside0.mk hy302
                        clear hy302
                        have c25b0 := eq_true (of_decide_eq_true (by first | (with_reducible assumption) | assumption) : 0 ≤ x31_1)
                        have c26b0 := eq_true (of_decide_eq_true (by first | (with_reducible assumption) | assumption) : x31_1 ≤ (wrap64 (x31_1 + 1)))
                        have c27b0 := eq_true (of_decide_eq_true (by first | (with_reducible assumption) | assumption) : (wrap64 (x31_1 + 1)) ≤ (t283.length : Int))
                        obtain ⟨y306, hy306⟩ : ∃ y_ : List (List Int), y_ = ((t283.take ((wrap64 (x31_1 + 1)) : Int).toNat).drop (x31_1 : Int).toNat) := ⟨_, rfl⟩
                        replace H : ((channels_Euclid.f k1 y302 y306).bind fun bt310 => (if bt310.2 = 0 then (shapesearchlaw16_ChannelsSums.l0 k1 t280 t283 t286 t288 t289 (wrap64 (x8_1 + t298)) (wrap64 (x9_1 + bt310.1)) (t280.length : Int) (wrap64 (x31_1 + 1))) else (some false))) = some r := by first | (rw [hy306]; with_reducible exact H) | (have H2_ := (Option.bind_some _ _).symm.trans H; rw [hy306]; with_reducible exact H2_) | (have H2_ := (Option.bind_some _ _).symm.trans H; with_reducible exact H2_) | with_reducible exact H | (rw [hy306]; exact H) | exact H
                        have Ny306 := Aside0.mk hy306
                        clear hy306
                        replace H := Option.bind_eq_some_iff.mp H
                        obtain ⟨⟨t310, t311⟩, A280, H⟩ := H
                        replace H : (if t311 = 0 then (shapesearchlaw16_ChannelsSums.l0 k1 t280 t283 t286 t288 t289 (wrap64 (x8_1 + t298)) (wrap64 (x9_1 + t310)) (t280.length : Int) (wrap64 (x31_1 + 1))) else (some false)) = some r := H
                        have A28 := Aside0.mk A280
                        clear A280
                        by_cases c29 : t311 = 0
                        · rw [if_pos c29] at H
                          have c29b0 : (t311 == 0) = true := beq_iff_eq.mpr c29
                          have c29b1 : (t311 != 0) = false := bne_eq_false_iff_eq.mpr c29
                          clear c29
                          have H' := Aside0.mk H
                          clear H
                          try go_wp2
                          have n0_ := Aside0.mk (Kd.S_drew HO_3.out)
                          have n1_ := Aside0.mk (Kd.S_drew HO_4.out)
                          have n2_ := Aside0.mk (below_drew1 HB.out)
                          clear HO_3
                          clear HO_4
                          clear HB
                          have HO_3 := n0_
                          have HO_4 := n1_
                          have HB := n2_
                          clear n0_ n1_ n2_
                          have q31 : ((wrap64 (x31_1 + 1)) : Int) ≤ ((t280.length : Int) : Int) := of_decide_eq_true (by first | (with_reducible assumption) | assumption)
                          obtain ⟨i031, hi031, _, hsz31, _⟩ := info_parts info22
                          have hroom31 : t280.length ≤ co7 := (Kd.S_reads' HO_3.out).2.1
                          have hC31 : Kd.C (Kd.slice 3 (Kd.int .i64)) _ Ao7 t280.length t280 := (Kd.S_reads' HO_3.out).2.2
                          have ql31 : (x31_1 : Int) ≤ ((wrap64 (x31_1 + 1)) : Int) := of_decide_eq_true (by first | (with_reducible assumption) | assumption)
                          have q031 : (0 : Int) ≤ (x31_1 : Int) := of_decide_eq_true (by first | (with_reducible assumption) | assumption)
                          have hcut31 := cut_mid (P := Try.prog) 23 22 .i64 .i64 Try.underlying23 hi031 1 hsz31 Ao7 t280.length co7 x31_1 (wrap64 (x31_1 + 1)) q031 ql31 q31 hroom31
                          have hr31 := Kd.C_mid (lo := (x31_1 : Int).toNat) (hi := ((wrap64 (x31_1 + 1)) : Int).toNat) (c := co7) hC31 (by omega) (by omega) hroom31
                          obtain ⟨A31, hA31⟩ : ∃ A1, A1 = (if co7 = (x31_1 : Int).toNat then Ao7 else (Ao7 : Option Addr).map (·.add ((x31_1 : Int).toNat * 1))) := ⟨_, rfl⟩
                          obtain ⟨c31, hc31⟩ : ∃ c1, c1 = co7 - (x31_1 : Int).toNat := ⟨_, rfl⟩
                          have hy31 : y290.length = ((wrap64 (x31_1 + 1)) : Int).toNat - (x31_1 : Int).toNat := (by rw [Ny290.out, List.length_drop, List.length_take] <;> omega)
                          rw [show ((t280).take ((wrap64 (x31_1 + 1)) : Int).toNat).drop (x31_1 : Int).toNat = y290 from Ny290.out.symm] at hr31
                          replace hr31 : Kd.C (Kd.slice 3 (Kd.int .i64)) _ A31 y290.length y290 := (by rw [hA31]; exact hr31)
                          rw [← hy31, ← hA31, ← hc31] at hcut31
                          have HR293 := Aside0.mk hr31
                          have HC293 := Aside0.mk (show y290.length ≤ c31 from by rw [hy31, hc31]; exact Nat.sub_le_sub_right (Nat.le_trans (by omega) hroom31) _)
                          clear hr31 hC31 hroom31 hi031 hsz31 hc31
                          have KY31 := Aside0.mk hy31
                          have KA31 := Aside0.mk hA31
                          clear hy31 hA31
                          have KL31 := Aside0.mk (show ((wrap64 (x31_1 + 1)) : Int).toNat ≤ t280.length from by omega)
                          have KM31 := Aside0.mk (show (x31_1 : Int).toNat ≤ ((wrap64 (x31_1 + 1)) : Int).toNat from by omega)
                          replace q31 := eq_true q31
                          have q32 : ((wrap64 (x31_1 + 1)) : Int) ≤ ((t283.length : Int) : Int) := of_decide_eq_true (by first | (with_reducible assumption) | assumption)
                          obtain ⟨i032, hi032, _, hsz32, _⟩ := info_parts info22
                          have hroom32 : t283.length ≤ co8 := (Kd.S_reads' HO_4.out).2.1
                          have hC32 : Kd.C (Kd.slice 3 (Kd.int .i64)) _ Ao8 t283.length t283 := (Kd.S_reads' HO_4.out).2.2
                          have ql32 : (x31_1 : Int) ≤ ((wrap64 (x31_1 + 1)) : Int) := of_decide_eq_true (by first | (with_reducible assumption) | assumption)
                          have q032 : (0 : Int) ≤ (x31_1 : Int) := of_decide_eq_true (by first | (with_reducible assumption) | assumption)
                          have hcut32 := cut_mid (P := Try.prog) 23 22 .i64 .i64 Try.underlying23 hi032 1 hsz32 Ao8 t283.length co8 x31_1 (wrap64 (x31_1 + 1)) q032 ql32 q32 hroom32
                          have hr32 := Kd.C_mid (lo := (x31_1 : Int).toNat) (hi := ((wrap64 (x31_1 + 1)) : Int).toNat) (c := co8) hC32 (by omega) (by omega) hroom32
                          obtain ⟨A32, hA32⟩ : ∃ A1, A1 = (if co8 = (x31_1 : Int).toNat then Ao8 else (Ao8 : Option Addr).map (·.add ((x31_1 : Int).toNat * 1))) := ⟨_, rfl⟩
                          obtain ⟨c32, hc32⟩ : ∃ c1, c1 = co8 - (x31_1 : Int).toNat := ⟨_, rfl⟩
                          have hy32 : y294.length = ((wrap64 (x31_1 + 1)) : Int).toNat - (x31_1 : Int).toNat := (by rw [Ny294.out, List.length_drop, List.length_take] <;> omega)
                          rw [show ((t283).take ((wrap64 (x31_1 + 1)) : Int).toNat).drop (x31_1 : Int).toNat = y294 from Ny294.out.symm] at hr32
                          replace hr32 : Kd.C (Kd.slice 3 (Kd.int .i64)) _ A32 y294.length y294 := (by rw [hA32]; exact hr32)
                          rw [← hy32, ← hA32, ← hc32] at hcut32
                          have HR297 := Aside0.mk hr32
                          have HC297 := Aside0.mk (show y294.length ≤ c32 from by rw [hy32, hc32]; exact Nat.sub_le_sub_right (Nat.le_trans (by omega) hroom32) _)
                          clear hr32 hC32 hroom32 hi032 hsz32 hc32
                          have KY32 := Aside0.mk hy32
                          have KA32 := Aside0.mk hA32
                          clear hy32 hA32
                          have KL32 := Aside0.mk (show ((wrap64 (x31_1 + 1)) : Int).toNat ≤ t283.length from by omega)
                          have KM32 := Aside0.mk (show (x31_1 : Int).toNat ≤ ((wrap64 (x31_1 + 1)) : Int).toNat from by omega)
                          replace q32 := eq_true q32
                          refine start_ (n := 17) (S := fun w' => True) (ds := []) #[false, false, false, false, false, false, false, false, false, false, false, false, false, false, false, false, false] (by kernel_rfl) rfl rfl trivial (fun hHeld => ?_); refine with_tabW shapesearchlaw16_ChannelsSums.tab7 shapesearchlaw16_ChannelsSums.bits7 (fun HT_ HW_ => ?_)
                          generalize wr.drew = w30 at HO_3 HO_4 HB HR293 HR297 hHeld ⊢
                          refine pure_ (i := 0) (N := some 35) (v := ?_) (a' := ?_) #[true, false, false, false, false, false, false, false, false, false, false, false, false, false, false, false, false] rfl rfl (any_of HT_.out (by kernel_rfl)) (fun _ _ _ h => h) (Or.inl ⟨by rfl, ?_⟩) ?_ ?_
                          rotate_left
                          · intro w'
                            go_simp
                            with_reducible rfl
                          rotate_left
                          · simp only [Act.put, List.setIfInBounds_toArray, List.set_cons_zero, List.set_cons_succ, i64_w, i32_w]
                            rfl
                          refine pure_ (i := 1) (N := some 36) (v := ?_) (a' := ?_) #[true, true, false, false, false, false, false, false, false, false, false, false, false, false, false, false, false] rfl rfl (any_of HT_.out (by kernel_rfl)) (fun _ _ _ h => h) (Or.inl ⟨by rfl, ?_⟩) ?_ ?_
                          rotate_left
                          · intro w'
                            go_simp
                            with_reducible rfl
                          rotate_left
                          · simp only [Act.put, List.setIfInBounds_toArray, List.set_cons_zero, List.set_cons_succ, i64_w, i32_w]
                            rfl
                          refine pure_ (i := 2) (N := some 37) (v := ?_) (a' := ?_) #[true, true, true, false, false, false, false, false, false, false, false, false, false, false, false, false, false] rfl rfl (any_of HT_.out (by kernel_rfl)) (fun _ _ _ h => h) (Or.inl ⟨by rfl, ?_⟩) ?_ ?_
                          rotate_left
                          · intro w'
                            go_simp
                            with_reducible rfl
                          rotate_left
                          · simp only [Act.put, List.setIfInBounds_toArray, List.set_cons_zero, List.set_cons_succ, i64_w, i32_w]
                            rfl
                          refine pure_ (i := 3) (N := some 38) (v := ?_) (a' := ?_) #[true, true, true, true, false, false, false, false, false, false, false, false, false, false, false, false, false] rfl rfl (any_of HT_.out (by kernel_rfl)) (fun _ _ _ h => h) (Or.inl ⟨by rfl, ?_⟩) ?_ ?_
                          rotate_left
                          · intro w'
                            go_simp
                            with_reducible rfl
                          rotate_left
                          · simp only [Act.put, List.setIfInBounds_toArray, List.set_cons_zero, List.set_cons_succ, i64_w, i32_w]
                            rfl
                          refine pure_ (i := 4) (N := some 39) (v := ?_) (a' := ?_) #[true, true, true, true, true, false, false, false, false, false, false, false, false, false, false, false, false] rfl rfl (any_of HT_.out (by kernel_rfl)) (fun _ _ _ h => h) (Or.inl ⟨by rfl, ?_⟩) ?_ ?_
                          rotate_left
                          · intro w'
                            go_simp
                            with_reducible rfl
                          rotate_left
                          · simp only [Act.put, List.setIfInBounds_toArray, List.set_cons_zero, List.set_cons_succ, i64_w, i32_w]
                            rfl
                          refine pure_ (i := 5) (N := some 40) (v := ?_) (a' := ?_) #[true, true, true, true, true, true, false, false, false, false, false, false, false, false, false, false, false] rfl rfl (any_of HT_.out (by kernel_rfl)) (fun _ _ _ h => h) (Or.inl ⟨by rfl, ?_⟩) ?_ ?_
                          rotate_left
                          · intro w'
                            go_simp
                            with_reducible rfl
                          rotate_left
                          · simp only [Act.put, List.setIfInBounds_toArray, List.set_cons_zero, List.set_cons_succ, i64_w, i32_w]
                            rfl
                          refine pure_ (i := 6) (N := some 41) (v := ?_) (a' := ?_) #[true, true, true, true, true, true, true, false, false, false, false, false, false, false, false, false, false] rfl rfl (any_of HT_.out (by kernel_rfl)) (fun _ _ _ h => h) (Or.inl ⟨by rfl, ?_⟩) ?_ ?_
                          rotate_left
                          · intro w'
                            go_simp
                            with_reducible rfl
                          rotate_left
                          · simp only [Act.put, List.setIfInBounds_toArray, List.set_cons_zero, List.set_cons_succ, i64_w, i32_w]
                            rfl
                          refine pure_ (i := 7) (N := some 42) (v := ?_) (a' := ?_) #[true, true, true, true, true, true, true, true, false, false, false, false, false, false, false, false, false] rfl rfl (any_of HT_.out (by kernel_rfl)) (fun _ _ _ h => h) (Or.inl ⟨by rfl, ?_⟩) ?_ ?_
                          rotate_left
                          · intro w'
                            go_simp
                            with_reducible rfl
                          rotate_left
                          · simp only [Act.put, List.setIfInBounds_toArray, List.set_cons_zero, List.set_cons_succ, i64_w, i32_w]
                            rfl
                          refine pure_ (i := 8) (N := some 43) (v := ?_) (a' := ?_) #[true, true, true, true, true, true, true, true, true, false, false, false, false, false, false, false, false] rfl rfl (any_of HT_.out (by kernel_rfl)) (fun _ _ _ h => h) (Or.inl ⟨by rfl, ?_⟩) ?_ ?_
                          rotate_left
                          · intro w'
                            go_simp
                            with_reducible rfl
                          rotate_left
                          · simp only [Act.put, List.setIfInBounds_toArray, List.set_cons_zero, List.set_cons_succ, i64_w, i32_w]
                            rfl
                          refine pure_ (i := 9) (N := some 44) (v := ?_) (a' := ?_) #[true, true, true, true, true, true, true, true, true, true, false, false, false, false, false, false, false] rfl rfl (any_of HT_.out (by kernel_rfl)) (fun _ _ _ h => h) (Or.inl ⟨by rfl, ?_⟩) ?_ ?_
                          rotate_left
                          · intro w'
                            go_simp
                            with_reducible rfl
                          rotate_left
                          · simp only [Act.put, List.setIfInBounds_toArray, List.set_cons_zero, List.set_cons_succ, i64_w, i32_w]
                            rfl
                          refine pure_ (i := 10) (N := some 45) (v := ?_) (a' := ?_) #[true, true, true, true, true, true, true, true, true, true, true, false, false, false, false, false, false] rfl rfl (any_of HT_.out (by kernel_rfl)) (fun _ _ _ h => h) (Or.inl ⟨by rfl, ?_⟩) ?_ ?_
                          rotate_left
                          · intro w'
                            go_simp
                            with_reducible rfl
                          rotate_left
                          · simp only [Act.put, List.setIfInBounds_toArray, List.set_cons_zero, List.set_cons_succ, i64_w, i32_w]
                            rfl
                          refine one_ (i := 11) (N := some 46) #[true, true, true, true, true, true, true, true, true, true, true, true, false, false, false, false, false] rfl rfl (one_of HT_.out (by kernel_rfl)) (by decide) (fun K hK => ?_)
                          refine goes_ Try.func11 (by kernel_rfl) rfl #[.slice A31 y290.length c31, .slice A32 y294.length c32, .int .i64 t286] (by rfl) rfl rfl (by (try simp only [List.map_toArray, List.map_cons, List.map_nil]); first | done | rfl | (simp only [List.length_drop, List.length_take]; rfl) | ((try rw [KY31.out]); (try rw [KY32.out]); (try rw [KY36.out]); (try rw [KY37.out]); (try rw [KY40.out]); (try rw [KY41.out]); rfl)) ?_
                          with_reducible refine (channels_Apart.calls k1 _ _ y290 _ _ y294 t286 t298 t299 _ ?side1 ?side2 ?side3 ?side4 A17.out).mono ?_
                          (case side1 => repeat (first | exact (by repeat (first | (with_reducible exact HR293.out) | (with_reducible refine Kd.C_alloc ?_ _) | (with_reducible refine Kd.C_drewN ?_ _) | (with_reducible refine Kd.C_drew ?_) | exact HR293.out)) | (with_reducible refine Kd.C_alloc ?_ _) | (with_reducible refine Kd.C_drewN ?_ _) | (with_reducible refine Kd.C_drew ?_)))
                          (case side2 => exact HC293.out)
                          (case side3 => repeat (first | exact (by repeat (first | (with_reducible exact HR297.out) | (with_reducible refine Kd.C_alloc ?_ _) | (with_reducible refine Kd.C_drewN ?_ _) | (with_reducible refine Kd.C_drew ?_) | exact HR297.out)) | (with_reducible refine Kd.C_alloc ?_ _) | (with_reducible refine Kd.C_drewN ?_ _) | (with_reducible refine Kd.C_drew ?_)))
                          (case side4 => exact HC297.out)
                          rintro e w33 ⟨rfl, hb⟩
                          refine ⟨_, rfl, ?_⟩
                          have n0_ := Aside0.mk (Kd.S_below (by (with_reducible repeat (first | apply Kd.S_alloc | apply Kd.S_drewN | apply Kd.S_drew)); exact HO_3.out) hb)
                          have n1_ := Aside0.mk (Kd.S_below (by (with_reducible repeat (first | apply Kd.S_alloc | apply Kd.S_drewN | apply Kd.S_drew)); exact HO_4.out) hb)
                          have n2_ := Aside0.mk (Kd.C_below (by repeat (first | (with_reducible exact HR293.out) | (with_reducible refine Kd.C_alloc ?_ _) | (with_reducible refine Kd.C_drewN ?_ _) | (with_reducible refine Kd.C_drew ?_) | exact HR293.out)) hb)
                          have n3_ := Aside0.mk (Kd.C_below (by repeat (first | (with_reducible exact HR297.out) | (with_reducible refine Kd.C_alloc ?_ _) | (with_reducible refine Kd.C_drewN ?_ _) | (with_reducible refine Kd.C_drew ?_) | exact HR297.out)) hb)
                          have n4_ := Aside0.mk (below_step (by repeat (first | (with_reducible first | exact HB.out | apply below_alloc | apply pw_below_drewN | apply below_drew1) | exact HB.out)) hb)
                          clear HO_3
                          clear HO_4
                          clear HR293
                          clear HR297
                          clear HB
                          have HO_3 := n0_
                          have HO_4 := n1_
                          have HR293 := n2_
                          have HR297 := n3_
                          have HB := n4_
                          clear n0_ n1_ n2_ n3_ n4_
                          (try clear hb)
                          (try clear hb2)
                          (try clear hk)
                          (try clear hi)
                          refine hK.out _ _ trivial (fun hHeld => ?_)
                          clear hK K
                          refine norm_ (a' := ?_) ?_ ?_
                          rotate_left
                          · show Act.put _ (some 46) _ = _
                            simp only [Act.put, List.setIfInBounds_toArray, List.set_cons_zero, List.set_cons_succ, i64_w, i32_w]
                            rfl
                          refine pure_ (i := 12) (N := some 34) (v := ?_) (a' := ?_) #[true, true, true, true, true, true, true, true, true, true, true, true, true, false, false, false, false] rfl rfl (any_of HT_.out (by kernel_rfl)) (fun _ _ _ h => h) (Or.inl ⟨by rfl, ?_⟩) ?_ ?_
                          rotate_left
                          · intro w'
                            go_simp
                            with_reducible rfl
                          rotate_left
                          · simp only [Act.put, List.setIfInBounds_toArray, List.set_cons_zero, List.set_cons_succ, i64_w, i32_w]
                            rfl
                          refine pure_ (i := 13) (N := some 47) (v := ?_) (a' := ?_) #[true, true, true, true, true, true, true, true, true, true, true, true, true, true, false, false, false] rfl rfl (any_of HT_.out (by kernel_rfl)) (fun _ _ _ h => h) (Or.inl ⟨by rfl, ?_⟩) ?_ ?_
                          rotate_left
                          · intro w'
                            go_simp
                            with_reducible rfl
                          rotate_left
                          · simp only [Act.put, List.setIfInBounds_toArray, List.set_cons_zero, List.set_cons_succ, i64_w, i32_w]
                            rfl
                          refine pure_ (i := 14) (N := some 48) (v := ?_) (a' := ?_) #[true, true, true, true, true, true, true, true, true, true, true, true, true, true, true, false, false] rfl rfl (any_of HT_.out (by kernel_rfl)) (fun _ _ _ h => h) (Or.inl ⟨by rfl, ?_⟩) ?_ ?_
                          rotate_left
                          · intro w'
                            go_simp
                            with_reducible rfl
                          rotate_left
                          · simp only [Act.put, List.setIfInBounds_toArray, List.set_cons_zero, List.set_cons_succ, i64_w, i32_w]
                            rfl
                          refine pure_ (i := 15) (N := some 11) (v := ?_) (a' := ?_) #[true, true, true, true, true, true, true, true, true, true, true, true, true, true, true, true, false] rfl rfl (any_of HT_.out (by kernel_rfl)) (fun _ _ _ h => h) (Or.inl ⟨by rfl, ?_⟩) ?_ ?_
                          rotate_left
                          · intro w'
                            go_simp
                            with_reducible rfl
                          rotate_left
                          · simp only [Act.put, List.setIfInBounds_toArray, List.set_cons_zero, List.set_cons_succ, i64_w, i32_w]
                            rfl
                          refine pure_ (i := 16) (N := some 12) (v := ?_) (a' := ?_) #[true, true, true, true, true, true, true, true, true, true, true, true, true, true, true, true, true] rfl rfl (any_of HT_.out (by kernel_rfl)) (fun _ _ _ h => h) (Or.inl ⟨by rfl, ?_⟩) ?_ ?_
                          rotate_left
                          · intro w'
                            go_simp
                            with_reducible rfl
                          rotate_left
                          · simp only [Act.put, List.setIfInBounds_toArray, List.set_cons_zero, List.set_cons_succ, i64_w, i32_w]
                            rfl
                          refine done_ (done_of HT_.out (by kernel_rfl)) ?_
                          try go_wp2
                          have n0_ := Aside0.mk (Kd.S_drew HO_3.out)
                          have n1_ := Aside0.mk (Kd.S_drew HO_4.out)
                          have n2_ := Aside0.mk (Kd.C_drew HR293.out)
                          have n3_ := Aside0.mk (Kd.C_drew HR297.out)
                          have n4_ := Aside0.mk (below_drew1 HB.out)
                          clear HO_3
                          clear HO_4
                          clear HR293
                          clear HR297
                          clear HB
                          have HO_3 := n0_
                          have HO_4 := n1_
                          have HR293 := n2_
                          have HR297 := n3_
                          have HB := n4_
                          clear n0_ n1_ n2_ n3_ n4_
                          have p300 : 0 ≤ (0 : Int) := (by omega)
                          have q300 : 0 < (t280.length : Int) := of_decide_eq_true (by first | (with_reducible assumption) | assumption)
                          obtain ⟨ad300, A300_0, c300_0, e300, hx300_0, hl300_0, hi300_0⟩ := at_L1 (Kd.S_reads' HO_3.out).2.2 0 p300 q300
                          cases e300
                          obtain ⟨ce300, hce300, hMe300, hcc300⟩ := Kd.S_get HO_3.out [] 0 p300 (by first | exact q300 | exact of_decide_eq_true (by first | (with_reducible assumption) | assumption) | (have e_ := (Kd.S_reads' HO_3.out).1; omega))
                          obtain ⟨ve300_0, rfl, ge300_0⟩ := hMe300
                          have hv300_0 := hcc300 0 _ rfl
                          rw [Nat.add_zero, show ((Kd.slice 3 (Kd.int .i64))).sz = 1 from rfl, Nat.mul_one] at hv300_0
                          replace hv300_0 := Option.some.inj (hv300_0.symm.trans hx300_0)
                          rw [hv300_0] at ge300_0
                          have HL300_0 := Aside0.mk (show Kd.R (Kd.int .i64) 3 _ _ _ _ (rd_L1 t280 0) from ge300_0)
                          clear hv300_0 ge300_0
                          clear hcc300 hce300
                          have qi300 : (0 < t280.length) = True := eq_true (by omega)
                          (try rw [show ((0 : Int)).toNat = 0 from rfl] at hx300_0)
                          (try rw [Addr.add_zero'] at hx300_0)
                          have HR300_0 := Aside0.mk hi300_0
                          have HC300_0 := Aside0.mk hl300_0
                          clear hi300_0 hl300_0
                          replace p300 := eq_true p300
                          replace q300 := eq_true q300
                          have p301 : 0 ≤ (0 : Int) := (by omega)
                          have q301 : 0 < (t283.length : Int) := of_decide_eq_true (by first | (with_reducible assumption) | assumption)
                          obtain ⟨ad301, A301_0, c301_0, e301, hx301_0, hl301_0, hi301_0⟩ := at_L1 (Kd.S_reads' HO_4.out).2.2 0 p301 q301
                          cases e301
                          obtain ⟨ce301, hce301, hMe301, hcc301⟩ := Kd.S_get HO_4.out [] 0 p301 (by first | exact q301 | exact of_decide_eq_true (by first | (with_reducible assumption) | assumption) | (have e_ := (Kd.S_reads' HO_4.out).1; omega))
                          obtain ⟨ve301_0, rfl, ge301_0⟩ := hMe301
                          have hv301_0 := hcc301 0 _ rfl
                          rw [Nat.add_zero, show ((Kd.slice 3 (Kd.int .i64))).sz = 1 from rfl, Nat.mul_one] at hv301_0
                          replace hv301_0 := Option.some.inj (hv301_0.symm.trans hx301_0)
                          rw [hv301_0] at ge301_0
                          have HL301_0 := Aside0.mk (show Kd.R (Kd.int .i64) 3 _ _ _ _ (rd_L1 t283 0) from ge301_0)
                          clear hv301_0 ge301_0
                          clear hcc301 hce301
                          have qi301 : (0 < t283.length) = True := eq_true (by omega)
                          (try rw [show ((0 : Int)).toNat = 0 from rfl] at hx301_0)
                          (try rw [Addr.add_zero'] at hx301_0)
                          have HR301_0 := Aside0.mk hi301_0
                          have HC301_0 := Aside0.mk hl301_0
                          clear hi301_0 hl301_0
                          replace p301 := eq_true p301
                          replace q301 := eq_true q301
                          refine start_ (n := 9) (S := fun w' => w'.cell? ad300 = some (.slice A300_0 (rd_L1 t280 0).length c300_0) ∧ w'.cell? ad301 = some (.slice A301_0 (rd_L1 t283 0).length c301_0)) (ds := []) #[false, false, false, false, false, false, false, false, false] (by kernel_rfl) rfl rfl ⟨hx300_0, hx301_0⟩ (fun hHeld => ?_); refine with_tabW shapesearchlaw16_ChannelsSums.tab11 shapesearchlaw16_ChannelsSums.bits11 (fun HT_ HW_ => ?_)
                          generalize w33.drew = w34 at HO_3 HO_4 HR293 HR297 HB HL300_0 HL301_0 HR300_0 HR301_0 hx300_0 hx301_0 hHeld ⊢
                          refine pure_ (i := 0) (N := some 54) (v := ?_) (a' := ?_) #[true, false, false, false, false, false, false, false, false] rfl rfl (any_of HT_.out (by kernel_rfl)) (fun _ _ _ h => h) (Or.inl ⟨by rfl, ?_⟩) ?_ ?_
                          rotate_left
                          · intro w'
                            go_simp
                            with_reducible rfl
                          rotate_left
                          · simp only [Act.put, List.setIfInBounds_toArray, List.set_cons_zero, List.set_cons_succ, i64_w, i32_w]
                            rfl
                          refine pure_ (i := 1) (N := some 55) (v := ?_) (a' := ?_) #[true, true, false, false, false, false, false, false, false] rfl rfl (any_of HT_.out (by kernel_rfl)) (fun _ _ _ h => h) (Or.inl ⟨by rfl, ?_⟩) ?_ ?_
                          rotate_left
                          · intro w'
                            go_simp
                            with_reducible rfl
                          rotate_left
                          · simp only [Act.put, List.setIfInBounds_toArray, List.set_cons_zero, List.set_cons_succ, i64_w, i32_w]
                            rfl
                          refine pure_ (i := 4) (N := some 58) (v := ?_) (a' := ?_) #[true, true, false, false, true, false, false, false, false] rfl rfl (any_of HT_.out (by kernel_rfl)) (fun _ _ _ h => h) (Or.inl ⟨by rfl, ?_⟩) ?_ ?_
                          rotate_left
                          · intro w'
                            go_simp
                            with_reducible rfl
                          rotate_left
                          · simp only [Act.put, List.setIfInBounds_toArray, List.set_cons_zero, List.set_cons_succ, i64_w, i32_w]
                            rfl
                          refine pure_ (i := 5) (N := some 59) (v := ?_) (a' := ?_) #[true, true, false, false, true, true, false, false, false] rfl rfl (any_of HT_.out (by kernel_rfl)) (fun _ _ _ h => h) (Or.inl ⟨by rfl, ?_⟩) ?_ ?_
                          rotate_left
                          · intro w'
                            go_simp
                            with_reducible rfl
                          rotate_left
                          · simp only [Act.put, List.setIfInBounds_toArray, List.set_cons_zero, List.set_cons_succ, i64_w, i32_w]
                            rfl
                          refine take_ (i := 2) (N := some 56) (v := ?_) (a' := ?_) #[true, true, true, false, true, true, false, false, false] rfl rfl (take_ofW HT_.out HW_.out (by kernel_rfl)) (fun _ _ _ h => h) (Or.inl ⟨by rfl, ?_⟩) hHeld ?_ ?_
                          rotate_left
                          · rintro w' ⟨s0, s1⟩
                            go_simp
                            with_reducible rfl
                          rotate_left
                          · simp only [Act.put, List.setIfInBounds_toArray, List.set_cons_zero, List.set_cons_succ, i64_w, i32_w]
                            rfl
                          refine pure_ (i := 3) (N := some 57) (v := ?_) (a' := ?_) #[true, true, true, true, true, true, false, false, false] rfl rfl (any_of HT_.out (by kernel_rfl)) (fun _ _ _ h => h) (Or.inl ⟨by rfl, ?_⟩) ?_ ?_
                          rotate_left
                          · intro w'
                            go_simp
                            with_reducible rfl
                          rotate_left
                          · simp only [Act.put, List.setIfInBounds_toArray, List.set_cons_zero, List.set_cons_succ, i64_w, i32_w]
                            rfl
                          refine take_ (i := 6) (N := some 60) (v := ?_) (a' := ?_) #[true, true, true, true, true, true, true, false, false] rfl rfl (take_ofW HT_.out HW_.out (by kernel_rfl)) (fun _ _ _ h => h) (Or.inl ⟨by rfl, ?_⟩) hHeld ?_ ?_
                          rotate_left
                          · rintro w' ⟨s0, s1⟩
                            go_simp
                            with_reducible rfl
                          rotate_left
                          · simp only [Act.put, List.setIfInBounds_toArray, List.set_cons_zero, List.set_cons_succ, i64_w, i32_w]
                            rfl
                          refine pure_ (i := 7) (N := some 61) (v := ?_) (a' := ?_) #[true, true, true, true, true, true, true, true, false] rfl rfl (any_of HT_.out (by kernel_rfl)) (fun _ _ _ h => h) (Or.inl ⟨by rfl, ?_⟩) ?_ ?_
                          rotate_left
                          · intro w'
                            go_simp
                            with_reducible rfl
                          rotate_left
                          · simp only [Act.put, List.setIfInBounds_toArray, List.set_cons_zero, List.set_cons_succ, i64_w, i32_w]
                            rfl
                          refine pure_ (i := 8) (N := some 62) (v := ?_) (a' := ?_) #[true, true, true, true, true, true, true, true, true] rfl rfl (any_of HT_.out (by kernel_rfl)) (fun _ _ _ h => h) (Or.inl ⟨by rfl, ?_⟩) ?_ ?_
                          rotate_left
                          · intro w'
                            go_simp
                            with_reducible rfl
                          rotate_left
                          · simp only [Act.put, List.setIfInBounds_toArray, List.set_cons_zero, List.set_cons_succ, i64_w, i32_w]
                            rfl
                          refine done_ (done_of HT_.out (by kernel_rfl)) ?_
                          try go_wp2
                          have n0_ := Aside0.mk (Kd.S_drew HO_3.out)
                          have n1_ := Aside0.mk (Kd.S_drew HO_4.out)
                          have n2_ := Aside0.mk (Kd.R_drew HL300_0.out)
                          have n3_ := Aside0.mk (Kd.R_drew HL301_0.out)
                          have n4_ := Aside0.mk (Kd.C_drew HR293.out)
                          have n5_ := Aside0.mk (Kd.C_drew HR297.out)
                          have n6_ := Aside0.mk (Kd.C_drew HR300_0.out)
                          have n7_ := Aside0.mk (Kd.C_drew HR301_0.out)
                          have n8_ := Aside0.mk (below_drew1 HB.out)
                          clear HO_3
                          clear HO_4
                          clear HL300_0
                          clear HL301_0
                          clear HR293
                          clear HR297
                          clear HR300_0
                          clear HR301_0
                          clear HB
                          have HO_3 := n0_
                          have HO_4 := n1_
                          have HL300_0 := n2_
                          have HL301_0 := n3_
                          have HR293 := n4_
                          have HR297 := n5_
                          have HR300_0 := n6_
                          have HR301_0 := n7_
                          have HB := n8_
                          clear n0_ n1_ n2_ n3_ n4_ n5_ n6_ n7_ n8_
                          have q36 : ((wrap64 (x31_1 + 1)) : Int) ≤ ((t280.length : Int) : Int) := of_decide_eq_true (by first | (with_reducible assumption) | assumption)
                          obtain ⟨i036, hi036, _, hsz36, _⟩ := info_parts info22
                          have hroom36 : t280.length ≤ co7 := (Kd.S_reads' HO_3.out).2.1
                          have hC36 : Kd.C (Kd.slice 3 (Kd.int .i64)) _ (some ad300) t280.length t280 := (Kd.S_reads' HO_3.out).2.2
                          have ql36 : (x31_1 : Int) ≤ ((wrap64 (x31_1 + 1)) : Int) := of_decide_eq_true (by first | (with_reducible assumption) | assumption)
                          have q036 : (0 : Int) ≤ (x31_1 : Int) := of_decide_eq_true (by first | (with_reducible assumption) | assumption)
                          try clear hcut31
                          have hcut36 := cut_mid (P := Try.prog) 23 22 .i64 .i64 Try.underlying23 hi036 1 hsz36 (some ad300) t280.length co7 x31_1 (wrap64 (x31_1 + 1)) q036 ql36 q36 hroom36
                          have hr36 := Kd.C_mid (lo := (x31_1 : Int).toNat) (hi := ((wrap64 (x31_1 + 1)) : Int).toNat) (c := co7) hC36 (by omega) (by omega) hroom36
                          obtain ⟨A36, hA36⟩ : ∃ A1, A1 = (if co7 = (x31_1 : Int).toNat then (some ad300) else ((some ad300) : Option Addr).map (·.add ((x31_1 : Int).toNat * 1))) := ⟨_, rfl⟩
                          obtain ⟨c36, hc36⟩ : ∃ c1, c1 = co7 - (x31_1 : Int).toNat := ⟨_, rfl⟩
                          have hy36 : y302.length = ((wrap64 (x31_1 + 1)) : Int).toNat - (x31_1 : Int).toNat := (by rw [Ny302.out, List.length_drop, List.length_take] <;> omega)
                          rw [show ((t280).take ((wrap64 (x31_1 + 1)) : Int).toNat).drop (x31_1 : Int).toNat = y302 from Ny302.out.symm] at hr36
                          replace hr36 : Kd.C (Kd.slice 3 (Kd.int .i64)) _ A36 y302.length y302 := (by rw [hA36]; exact hr36)
                          rw [← hy36, ← hA36, ← hc36] at hcut36
                          have HR305 := Aside0.mk hr36
                          have HC305 := Aside0.mk (show y302.length ≤ c36 from by rw [hy36, hc36]; exact Nat.sub_le_sub_right (Nat.le_trans (by omega) hroom36) _)
                          clear hr36 hC36 hroom36 hi036 hsz36 hc36
                          have KY36 := Aside0.mk hy36
                          have KA36 := Aside0.mk hA36
                          clear hy36 hA36
                          have KL36 := Aside0.mk (show ((wrap64 (x31_1 + 1)) : Int).toNat ≤ t280.length from by omega)
                          have KM36 := Aside0.mk (show (x31_1 : Int).toNat ≤ ((wrap64 (x31_1 + 1)) : Int).toNat from by omega)
                          replace q36 := eq_true q36
                          have q37 : ((wrap64 (x31_1 + 1)) : Int) ≤ ((t283.length : Int) : Int) := of_decide_eq_true (by first | (with_reducible assumption) | assumption)
                          obtain ⟨i037, hi037, _, hsz37, _⟩ := info_parts info22
                          have hroom37 : t283.length ≤ co8 := (Kd.S_reads' HO_4.out).2.1
                          have hC37 : Kd.C (Kd.slice 3 (Kd.int .i64)) _ (some ad301) t283.length t283 := (Kd.S_reads' HO_4.out).2.2
                          have ql37 : (x31_1 : Int) ≤ ((wrap64 (x31_1 + 1)) : Int) := of_decide_eq_true (by first | (with_reducible assumption) | assumption)
                          have q037 : (0 : Int) ≤ (x31_1 : Int) := of_decide_eq_true (by first | (with_reducible assumption) | assumption)
                          try clear hcut32
                          have hcut37 := cut_mid (P := Try.prog) 23 22 .i64 .i64 Try.underlying23 hi037 1 hsz37 (some ad301) t283.length co8 x31_1 (wrap64 (x31_1 + 1)) q037 ql37 q37 hroom37
                          have hr37 := Kd.C_mid (lo := (x31_1 : Int).toNat) (hi := ((wrap64 (x31_1 + 1)) : Int).toNat) (c := co8) hC37 (by omega) (by omega) hroom37
                          obtain ⟨A37, hA37⟩ : ∃ A1, A1 = (if co8 = (x31_1 : Int).toNat then (some ad301) else ((some ad301) : Option Addr).map (·.add ((x31_1 : Int).toNat * 1))) := ⟨_, rfl⟩
                          obtain ⟨c37, hc37⟩ : ∃ c1, c1 = co8 - (x31_1 : Int).toNat := ⟨_, rfl⟩
                          have hy37 : y306.length = ((wrap64 (x31_1 + 1)) : Int).toNat - (x31_1 : Int).toNat := (by rw [Ny306.out, List.length_drop, List.length_take] <;> omega)
                          rw [show ((t283).take ((wrap64 (x31_1 + 1)) : Int).toNat).drop (x31_1 : Int).toNat = y306 from Ny306.out.symm] at hr37
                          replace hr37 : Kd.C (Kd.slice 3 (Kd.int .i64)) _ A37 y306.length y306 := (by rw [hA37]; exact hr37)
                          rw [← hy37, ← hA37, ← hc37] at hcut37
                          have HR309 := Aside0.mk hr37
                          have HC309 := Aside0.mk (show y306.length ≤ c37 from by rw [hy37, hc37]; exact Nat.sub_le_sub_right (Nat.le_trans (by omega) hroom37) _)
                          clear hr37 hC37 hroom37 hi037 hsz37 hc37
                          have KY37 := Aside0.mk hy37
                          have KA37 := Aside0.mk hA37
                          clear hy37 hA37
                          have KL37 := Aside0.mk (show ((wrap64 (x31_1 + 1)) : Int).toNat ≤ t283.length from by omega)
                          have KM37 := Aside0.mk (show (x31_1 : Int).toNat ≤ ((wrap64 (x31_1 + 1)) : Int).toNat from by omega)
                          replace q37 := eq_true q37
                          refine start_ (n := 16) (S := fun w' => True) (ds := []) #[false, false, false, false, false, false, false, false, false, false, false, false, false, false, false, false] (by kernel_rfl) rfl rfl trivial (fun hHeld => ?_); refine with_tabW shapesearchlaw16_ChannelsSums.tab12 shapesearchlaw16_ChannelsSums.bits12 (fun HT_ HW_ => ?_)
                          generalize w34.drew = w35 at HO_3 HO_4 HL300_0 HL301_0 HR293 HR297 HR300_0 HR301_0 HB HR305 HR309 hHeld ⊢
                          refine pure_ (i := 0) (N := some 64) (v := ?_) (a' := ?_) #[true, false, false, false, false, false, false, false, false, false, false, false, false, false, false, false] rfl rfl (any_of HT_.out (by kernel_rfl)) (fun _ _ _ h => h) (Or.inl ⟨by rfl, ?_⟩) ?_ ?_
                          rotate_left
                          · intro w'
                            go_simp
                            with_reducible rfl
                          rotate_left
                          · simp only [Act.put, List.setIfInBounds_toArray, List.set_cons_zero, List.set_cons_succ, i64_w, i32_w]
                            rfl
                          refine pure_ (i := 1) (N := some 65) (v := ?_) (a' := ?_) #[true, true, false, false, false, false, false, false, false, false, false, false, false, false, false, false] rfl rfl (any_of HT_.out (by kernel_rfl)) (fun _ _ _ h => h) (Or.inl ⟨by rfl, ?_⟩) ?_ ?_
                          rotate_left
                          · intro w'
                            go_simp
                            with_reducible rfl
                          rotate_left
                          · simp only [Act.put, List.setIfInBounds_toArray, List.set_cons_zero, List.set_cons_succ, i64_w, i32_w]
                            rfl
                          refine pure_ (i := 2) (N := some 66) (v := ?_) (a' := ?_) #[true, true, true, false, false, false, false, false, false, false, false, false, false, false, false, false] rfl rfl (any_of HT_.out (by kernel_rfl)) (fun _ _ _ h => h) (Or.inl ⟨by rfl, ?_⟩) ?_ ?_
                          rotate_left
                          · intro w'
                            go_simp
                            with_reducible rfl
                          rotate_left
                          · simp only [Act.put, List.setIfInBounds_toArray, List.set_cons_zero, List.set_cons_succ, i64_w, i32_w]
                            rfl
                          refine pure_ (i := 3) (N := some 67) (v := ?_) (a' := ?_) #[true, true, true, true, false, false, false, false, false, false, false, false, false, false, false, false] rfl rfl (any_of HT_.out (by kernel_rfl)) (fun _ _ _ h => h) (Or.inl ⟨by rfl, ?_⟩) ?_ ?_
                          rotate_left
                          · intro w'
                            go_simp
                            with_reducible rfl
                          rotate_left
                          · simp only [Act.put, List.setIfInBounds_toArray, List.set_cons_zero, List.set_cons_succ, i64_w, i32_w]
                            rfl
                          refine pure_ (i := 4) (N := some 68) (v := ?_) (a' := ?_) #[true, true, true, true, true, false, false, false, false, false, false, false, false, false, false, false] rfl rfl (any_of HT_.out (by kernel_rfl)) (fun _ _ _ h => h) (Or.inl ⟨by rfl, ?_⟩) ?_ ?_
                          rotate_left
                          · intro w'
                            go_simp
                            with_reducible rfl
                          rotate_left
                          · simp only [Act.put, List.setIfInBounds_toArray, List.set_cons_zero, List.set_cons_succ, i64_w, i32_w]
                            rfl
                          refine pure_ (i := 5) (N := some 69) (v := ?_) (a' := ?_) #[true, true, true, true, true, true, false, false, false, false, false, false, false, false, false, false] rfl rfl (any_of HT_.out (by kernel_rfl)) (fun _ _ _ h => h) (Or.inl ⟨by rfl, ?_⟩) ?_ ?_
                          rotate_left
                          · intro w'
                            go_simp
                            with_reducible rfl
                          rotate_left
                          · simp only [Act.put, List.setIfInBounds_toArray, List.set_cons_zero, List.set_cons_succ, i64_w, i32_w]
                            rfl
                          refine pure_ (i := 6) (N := some 70) (v := ?_) (a' := ?_) #[true, true, true, true, true, true, true, false, false, false, false, false, false, false, false, false] rfl rfl (any_of HT_.out (by kernel_rfl)) (fun _ _ _ h => h) (Or.inl ⟨by rfl, ?_⟩) ?_ ?_
                          rotate_left
                          · intro w'
                            go_simp
                            with_reducible rfl
                          rotate_left
                          · simp only [Act.put, List.setIfInBounds_toArray, List.set_cons_zero, List.set_cons_succ, i64_w, i32_w]
                            rfl
                          refine pure_ (i := 7) (N := some 71) (v := ?_) (a' := ?_) #[true, true, true, true, true, true, true, true, false, false, false, false, false, false, false, false] rfl rfl (any_of HT_.out (by kernel_rfl)) (fun _ _ _ h => h) (Or.inl ⟨by rfl, ?_⟩) ?_ ?_
                          rotate_left
                          · intro w'
                            go_simp
                            with_reducible rfl
                          rotate_left
                          · simp only [Act.put, List.setIfInBounds_toArray, List.set_cons_zero, List.set_cons_succ, i64_w, i32_w]
                            rfl
                          refine pure_ (i := 8) (N := some 72) (v := ?_) (a' := ?_) #[true, true, true, true, true, true, true, true, true, false, false, false, false, false, false, false] rfl rfl (any_of HT_.out (by kernel_rfl)) (fun _ _ _ h => h) (Or.inl ⟨by rfl, ?_⟩) ?_ ?_
                          rotate_left
                          · intro w'
                            go_simp
                            with_reducible rfl
                          rotate_left
                          · simp only [Act.put, List.setIfInBounds_toArray, List.set_cons_zero, List.set_cons_succ, i64_w, i32_w]
                            rfl
                          refine pure_ (i := 9) (N := some 73) (v := ?_) (a' := ?_) #[true, true, true, true, true, true, true, true, true, true, false, false, false, false, false, false] rfl rfl (any_of HT_.out (by kernel_rfl)) (fun _ _ _ h => h) (Or.inl ⟨by rfl, ?_⟩) ?_ ?_
                          rotate_left
                          · intro w'
                            go_simp
                            with_reducible rfl
                          rotate_left
                          · simp only [Act.put, List.setIfInBounds_toArray, List.set_cons_zero, List.set_cons_succ, i64_w, i32_w]
                            rfl
                          refine one_ (i := 10) (N := some 74) #[true, true, true, true, true, true, true, true, true, true, true, false, false, false, false, false] rfl rfl (one_of HT_.out (by kernel_rfl)) (by decide) (fun K hK => ?_)
                          refine goes_ Try.func14 (by kernel_rfl) rfl #[.slice A36 y302.length c36, .slice A37 y306.length c37] (by rfl) rfl rfl (by (try simp only [List.map_toArray, List.map_cons, List.map_nil]); first | done | rfl | (simp only [List.length_drop, List.length_take]; rfl) | ((try rw [KY31.out]); (try rw [KY32.out]); (try rw [KY36.out]); (try rw [KY37.out]); (try rw [KY40.out]); (try rw [KY41.out]); rfl)) ?_
                          with_reducible refine (channels_Euclid.calls k1 _ _ y302 _ _ y306 t310 t311 _ ?side1 ?side2 ?side3 ?side4 A28.out).mono ?_
                          (case side1 => repeat (first | exact (by repeat (first | (with_reducible exact HR305.out) | (with_reducible refine Kd.C_alloc ?_ _) | (with_reducible refine Kd.C_drewN ?_ _) | (with_reducible refine Kd.C_drew ?_) | exact HR305.out)) | (with_reducible refine Kd.C_alloc ?_ _) | (with_reducible refine Kd.C_drewN ?_ _) | (with_reducible refine Kd.C_drew ?_)))
                          (case side2 => exact HC305.out)
                          (case side3 => repeat (first | exact (by repeat (first | (with_reducible exact HR309.out) | (with_reducible refine Kd.C_alloc ?_ _) | (with_reducible refine Kd.C_drewN ?_ _) | (with_reducible refine Kd.C_drew ?_) | exact HR309.out)) | (with_reducible refine Kd.C_alloc ?_ _) | (with_reducible refine Kd.C_drewN ?_ _) | (with_reducible refine Kd.C_drew ?_)))
                          (case side4 => exact HC309.out)
                          rintro e w38 ⟨rfl, hb⟩
                          refine ⟨_, rfl, ?_⟩
                          have n0_ := Aside0.mk (Kd.S_below (by (with_reducible repeat (first | apply Kd.S_alloc | apply Kd.S_drewN | apply Kd.S_drew)); exact HO_3.out) hb)
                          have n1_ := Aside0.mk (Kd.S_below (by (with_reducible repeat (first | apply Kd.S_alloc | apply Kd.S_drewN | apply Kd.S_drew)); exact HO_4.out) hb)
                          have n2_ := Aside0.mk (Kd.R_below (by (with_reducible repeat (first | apply Kd.R_alloc | apply Kd.R_drewN | apply Kd.R_drew)); exact HL300_0.out) hb)
                          have n3_ := Aside0.mk (Kd.R_below (by (with_reducible repeat (first | apply Kd.R_alloc | apply Kd.R_drewN | apply Kd.R_drew)); exact HL301_0.out) hb)
                          have n4_ := Aside0.mk (Kd.C_below (by repeat (first | (with_reducible exact HR293.out) | (with_reducible refine Kd.C_alloc ?_ _) | (with_reducible refine Kd.C_drewN ?_ _) | (with_reducible refine Kd.C_drew ?_) | exact HR293.out)) hb)
                          have n5_ := Aside0.mk (Kd.C_below (by repeat (first | (with_reducible exact HR297.out) | (with_reducible refine Kd.C_alloc ?_ _) | (with_reducible refine Kd.C_drewN ?_ _) | (with_reducible refine Kd.C_drew ?_) | exact HR297.out)) hb)
                          have n6_ := Aside0.mk (Kd.C_below (by repeat (first | (with_reducible exact HR300_0.out) | (with_reducible refine Kd.C_alloc ?_ _) | (with_reducible refine Kd.C_drewN ?_ _) | (with_reducible refine Kd.C_drew ?_) | exact HR300_0.out)) hb)
                          have n7_ := Aside0.mk (Kd.C_below (by repeat (first | (with_reducible exact HR301_0.out) | (with_reducible refine Kd.C_alloc ?_ _) | (with_reducible refine Kd.C_drewN ?_ _) | (with_reducible refine Kd.C_drew ?_) | exact HR301_0.out)) hb)
                          have n8_ := Aside0.mk (Kd.C_below (by repeat (first | (with_reducible exact HR305.out) | (with_reducible refine Kd.C_alloc ?_ _) | (with_reducible refine Kd.C_drewN ?_ _) | (with_reducible refine Kd.C_drew ?_) | exact HR305.out)) hb)
                          have n9_ := Aside0.mk (Kd.C_below (by repeat (first | (with_reducible exact HR309.out) | (with_reducible refine Kd.C_alloc ?_ _) | (with_reducible refine Kd.C_drewN ?_ _) | (with_reducible refine Kd.C_drew ?_) | exact HR309.out)) hb)
                          have n10_ := Aside0.mk (below_step (by repeat (first | (with_reducible first | exact HB.out | apply below_alloc | apply pw_below_drewN | apply below_drew1) | exact HB.out)) hb)
                          clear HO_3
                          clear HO_4
                          clear HL300_0
                          clear HL301_0
                          clear HR293
                          clear HR297
                          clear HR300_0
                          clear HR301_0
                          clear HR305
                          clear HR309
                          clear HB
                          have HO_3 := n0_
                          have HO_4 := n1_
                          have HL300_0 := n2_
                          have HL301_0 := n3_
                          have HR293 := n4_
                          have HR297 := n5_
                          have HR300_0 := n6_
                          have HR301_0 := n7_
                          have HR305 := n8_
                          have HR309 := n9_
                          have HB := n10_
                          clear n0_ n1_ n2_ n3_ n4_ n5_ n6_ n7_ n8_ n9_ n10_
                          (try clear hb)
                          (try clear hb2)
                          (try clear hk)
                          (try clear hi)
                          refine hK.out _ _ trivial (fun hHeld => ?_)
                          clear hK K
                          refine norm_ (a' := ?_) ?_ ?_
                          rotate_left
                          · show Act.put _ (some 74) _ = _
                            simp only [Act.put, List.setIfInBounds_toArray, List.set_cons_zero, List.set_cons_succ, i64_w, i32_w]
                            rfl
                          refine pure_ (i := 11) (N := some 63) (v := ?_) (a' := ?_) #[true, true, true, true, true, true, true, true, true, true, true, true, false, false, false, false] rfl rfl (any_of HT_.out (by kernel_rfl)) (fun _ _ _ h => h) (Or.inl ⟨by rfl, ?_⟩) ?_ ?_
                          rotate_left
                          · intro w'
                            go_simp
                            with_reducible rfl
                          rotate_left
                          · simp only [Act.put, List.setIfInBounds_toArray, List.set_cons_zero, List.set_cons_succ, i64_w, i32_w]
                            rfl
                          refine pure_ (i := 12) (N := some 75) (v := ?_) (a' := ?_) #[true, true, true, true, true, true, true, true, true, true, true, true, true, false, false, false] rfl rfl (any_of HT_.out (by kernel_rfl)) (fun _ _ _ h => h) (Or.inl ⟨by rfl, ?_⟩) ?_ ?_
                          rotate_left
                          · intro w'
                            go_simp
                            with_reducible rfl
                          rotate_left
                          · simp only [Act.put, List.setIfInBounds_toArray, List.set_cons_zero, List.set_cons_succ, i64_w, i32_w]
                            rfl
                          refine pure_ (i := 13) (N := some 76) (v := ?_) (a' := ?_) #[true, true, true, true, true, true, true, true, true, true, true, true, true, true, false, false] rfl rfl (any_of HT_.out (by kernel_rfl)) (fun _ _ _ h => h) (Or.inl ⟨by rfl, ?_⟩) ?_ ?_
                          rotate_left
                          · intro w'
                            go_simp
                            with_reducible rfl
                          rotate_left
                          · simp only [Act.put, List.setIfInBounds_toArray, List.set_cons_zero, List.set_cons_succ, i64_w, i32_w]
                            rfl
                          refine pure_ (i := 14) (N := some 11) (v := ?_) (a' := ?_) #[true, true, true, true, true, true, true, true, true, true, true, true, true, true, true, false] rfl rfl (any_of HT_.out (by kernel_rfl)) (fun _ _ _ h => h) (Or.inl ⟨by rfl, ?_⟩) ?_ ?_
                          rotate_left
                          · intro w'
                            go_simp
                            with_reducible rfl
                          rotate_left
                          · simp only [Act.put, List.setIfInBounds_toArray, List.set_cons_zero, List.set_cons_succ, i64_w, i32_w]
                            rfl
                          refine pure_ (i := 15) (N := some 12) (v := ?_) (a' := ?_) #[true, true, true, true, true, true, true, true, true, true, true, true, true, true, true, true] rfl rfl (any_of HT_.out (by kernel_rfl)) (fun _ _ _ h => h) (Or.inl ⟨by rfl, ?_⟩) ?_ ?_
                          rotate_left
                          · intro w'
                            go_simp
                            with_reducible rfl
                          rotate_left
                          · simp only [Act.put, List.setIfInBounds_toArray, List.set_cons_zero, List.set_cons_succ, i64_w, i32_w]
                            rfl
                          refine done_ (done_of HT_.out (by kernel_rfl)) ?_
                          try go_wp2
                          go_roundg k1
                          case measure => have := HK1.out; omega
                          case rel => exact ⟨(wrap64 (x8_1 + t298)), (wrap64 (x9_1 + t310)), (wrap64 (x31_1 + 1)), (by first | rfl | (simp; done) | (simp [*]; done)), (by first | rfl | (simp; done) | (simp [*]; done)), (by first | rfl | (simp; done) | (simp [*]; done)), H', ⟨by have := HK1.out; omega⟩, ⟨by (with_reducible repeat (first | apply Kd.S_alloc | apply Kd.S_drewN | apply Kd.S_drew)); exact HO_3.out⟩, ⟨by (with_reducible repeat (first | apply Kd.S_alloc | apply Kd.S_drewN | apply Kd.S_drew)); exact HO_4.out⟩, ⟨by repeat (first | (with_reducible first | exact HB.out | apply below_alloc | apply pw_below_drewN | apply below_drew1) | exact HB.out)⟩⟩
                        · rw [if_neg c29] at H
                          have c29b0 : (t311 == 0) = false := beq_eq_false_iff_ne.mpr c29
                          have c29b1 : (t311 != 0) = true := bne_iff_ne.mpr c29
                          exact absurd ((Option.some.inj H).trans HTR_.out) (by decide)
                      · rw [if_neg c21] at H
                        have c21b0 : (((rd_L1 t280 0).length : Int) == ((rd_L1 t283 0).length : Int)) = false := beq_eq_false_iff_ne.mpr c21
                        have c21b1 : (((rd_L1 t280 0).length : Int) != ((rd_L1 t283 0).length : Int)) = true := bne_iff_ne.mpr c21
                        have c21b2 : ((rd_L1 t280 0).length == (rd_L1 t283 0).length) = false := by first | simpa using c21 | (simp at c21 ⊢; omega)
                        have H' := Aside0.mk H
                        clear H
                        try go_wp2
                        have n0_ := Aside0.mk (Kd.S_drew HO_3.out)
                        have n1_ := Aside0.mk (Kd.S_drew HO_4.out)
                        have n2_ := Aside0.mk (below_drew1 HB.out)
                        clear HO_3
                        clear HO_4
                        clear HB
                        have HO_3 := n0_
                        have HO_4 := n1_
                        have HB := n2_
                        clear n0_ n1_ n2_
                        have q40 : ((wrap64 (x31_1 + 1)) : Int) ≤ ((t280.length : Int) : Int) := of_decide_eq_true (by first | (with_reducible assumption) | assumption)
                        obtain ⟨i040, hi040, _, hsz40, _⟩ := info_parts info22
                        have hroom40 : t280.length ≤ co7 := (Kd.S_reads' HO_3.out).2.1
                        have hC40 : Kd.C (Kd.slice 3 (Kd.int .i64)) _ Ao7 t280.length t280 := (Kd.S_reads' HO_3.out).2.2
                        have ql40 : (x31_1 : Int) ≤ ((wrap64 (x31_1 + 1)) : Int) := of_decide_eq_true (by first | (with_reducible assumption) | assumption)
                        have q040 : (0 : Int) ≤ (x31_1 : Int) := of_decide_eq_true (by first | (with_reducible assumption) | assumption)
                        try clear hcut36
                        have hcut40 := cut_mid (P := Try.prog) 23 22 .i64 .i64 Try.underlying23 hi040 1 hsz40 Ao7 t280.length co7 x31_1 (wrap64 (x31_1 + 1)) q040 ql40 q40 hroom40
                        have hr40 := Kd.C_mid (lo := (x31_1 : Int).toNat) (hi := ((wrap64 (x31_1 + 1)) : Int).toNat) (c := co7) hC40 (by omega) (by omega) hroom40
                        obtain ⟨A40, hA40⟩ : ∃ A1, A1 = (if co7 = (x31_1 : Int).toNat then Ao7 else (Ao7 : Option Addr).map (·.add ((x31_1 : Int).toNat * 1))) := ⟨_, rfl⟩
                        obtain ⟨c40, hc40⟩ : ∃ c1, c1 = co7 - (x31_1 : Int).toNat := ⟨_, rfl⟩
                        have hy40 : y290.length = ((wrap64 (x31_1 + 1)) : Int).toNat - (x31_1 : Int).toNat := (by rw [Ny290.out, List.length_drop, List.length_take] <;> omega)
                        rw [show ((t280).take ((wrap64 (x31_1 + 1)) : Int).toNat).drop (x31_1 : Int).toNat = y290 from Ny290.out.symm] at hr40
                        replace hr40 : Kd.C (Kd.slice 3 (Kd.int .i64)) _ A40 y290.length y290 := (by rw [hA40]; exact hr40)
                        rw [← hy40, ← hA40, ← hc40] at hcut40
                        have HR293 := Aside0.mk hr40
                        have HC293 := Aside0.mk (show y290.length ≤ c40 from by rw [hy40, hc40]; exact Nat.sub_le_sub_right (Nat.le_trans (by omega) hroom40) _)
                        clear hr40 hC40 hroom40 hi040 hsz40 hc40
                        have KY40 := Aside0.mk hy40
                        have KA40 := Aside0.mk hA40
                        clear hy40 hA40
                        have KL40 := Aside0.mk (show ((wrap64 (x31_1 + 1)) : Int).toNat ≤ t280.length from by omega)
                        have KM40 := Aside0.mk (show (x31_1 : Int).toNat ≤ ((wrap64 (x31_1 + 1)) : Int).toNat from by omega)
                        replace q40 := eq_true q40
                        have q41 : ((wrap64 (x31_1 + 1)) : Int) ≤ ((t283.length : Int) : Int) := of_decide_eq_true (by first | (with_reducible assumption) | assumption)
                        obtain ⟨i041, hi041, _, hsz41, _⟩ := info_parts info22
                        have hroom41 : t283.length ≤ co8 := (Kd.S_reads' HO_4.out).2.1
                        have hC41 : Kd.C (Kd.slice 3 (Kd.int .i64)) _ Ao8 t283.length t283 := (Kd.S_reads' HO_4.out).2.2
                        have ql41 : (x31_1 : Int) ≤ ((wrap64 (x31_1 + 1)) : Int) := of_decide_eq_true (by first | (with_reducible assumption) | assumption)
                        have q041 : (0 : Int) ≤ (x31_1 : Int) := of_decide_eq_true (by first | (with_reducible assumption) | assumption)
                        try clear hcut37
                        have hcut41 := cut_mid (P := Try.prog) 23 22 .i64 .i64 Try.underlying23 hi041 1 hsz41 Ao8 t283.length co8 x31_1 (wrap64 (x31_1 + 1)) q041 ql41 q41 hroom41
                        have hr41 := Kd.C_mid (lo := (x31_1 : Int).toNat) (hi := ((wrap64 (x31_1 + 1)) : Int).toNat) (c := co8) hC41 (by omega) (by omega) hroom41
                        obtain ⟨A41, hA41⟩ : ∃ A1, A1 = (if co8 = (x31_1 : Int).toNat then Ao8 else (Ao8 : Option Addr).map (·.add ((x31_1 : Int).toNat * 1))) := ⟨_, rfl⟩
                        obtain ⟨c41, hc41⟩ : ∃ c1, c1 = co8 - (x31_1 : Int).toNat := ⟨_, rfl⟩
                        have hy41 : y294.length = ((wrap64 (x31_1 + 1)) : Int).toNat - (x31_1 : Int).toNat := (by rw [Ny294.out, List.length_drop, List.length_take] <;> omega)
                        rw [show ((t283).take ((wrap64 (x31_1 + 1)) : Int).toNat).drop (x31_1 : Int).toNat = y294 from Ny294.out.symm] at hr41
                        replace hr41 : Kd.C (Kd.slice 3 (Kd.int .i64)) _ A41 y294.length y294 := (by rw [hA41]; exact hr41)
                        rw [← hy41, ← hA41, ← hc41] at hcut41
                        have HR297 := Aside0.mk hr41
                        have HC297 := Aside0.mk (show y294.length ≤ c41 from by rw [hy41, hc41]; exact Nat.sub_le_sub_right (Nat.le_trans (by omega) hroom41) _)
                        clear hr41 hC41 hroom41 hi041 hsz41 hc41
                        have KY41 := Aside0.mk hy41
                        have KA41 := Aside0.mk hA41
                        clear hy41 hA41
                        have KL41 := Aside0.mk (show ((wrap64 (x31_1 + 1)) : Int).toNat ≤ t283.length from by omega)
                        have KM41 := Aside0.mk (show (x31_1 : Int).toNat ≤ ((wrap64 (x31_1 + 1)) : Int).toNat from by omega)
                        replace q41 := eq_true q41
                        refine start_ (n := 17) (S := fun w' => True) (ds := []) #[false, false, false, false, false, false, false, false, false, false, false, false, false, false, false, false, false] (by kernel_rfl) rfl rfl trivial (fun hHeld => ?_); refine with_tabW shapesearchlaw16_ChannelsSums.tab7 shapesearchlaw16_ChannelsSums.bits7 (fun HT_ HW_ => ?_)
                        generalize wr.drew = w39 at HO_3 HO_4 HB HR293 HR297 hHeld ⊢
                        refine pure_ (i := 0) (N := some 35) (v := ?_) (a' := ?_) #[true, false, false, false, false, false, false, false, false, false, false, false, false, false, false, false, false] rfl rfl (any_of HT_.out (by kernel_rfl)) (fun _ _ _ h => h) (Or.inl ⟨by rfl, ?_⟩) ?_ ?_
                        rotate_left
                        · intro w'
                          go_simp
                          with_reducible rfl
                        rotate_left
                        · simp only [Act.put, List.setIfInBounds_toArray, List.set_cons_zero, List.set_cons_succ, i64_w, i32_w]
                          rfl
                        refine pure_ (i := 1) (N := some 36) (v := ?_) (a' := ?_) #[true, true, false, false, false, false, false, false, false, false, false, false, false, false, false, false, false] rfl rfl (any_of HT_.out (by kernel_rfl)) (fun _ _ _ h => h) (Or.inl ⟨by rfl, ?_⟩) ?_ ?_
                        rotate_left
                        · intro w'
                          go_simp
                          with_reducible rfl
                        rotate_left
                        · simp only [Act.put, List.setIfInBounds_toArray, List.set_cons_zero, List.set_cons_succ, i64_w, i32_w]
                          rfl
                        refine pure_ (i := 2) (N := some 37) (v := ?_) (a' := ?_) #[true, true, true, false, false, false, false, false, false, false, false, false, false, false, false, false, false] rfl rfl (any_of HT_.out (by kernel_rfl)) (fun _ _ _ h => h) (Or.inl ⟨by rfl, ?_⟩) ?_ ?_
                        rotate_left
                        · intro w'
                          go_simp
                          with_reducible rfl
                        rotate_left
                        · simp only [Act.put, List.setIfInBounds_toArray, List.set_cons_zero, List.set_cons_succ, i64_w, i32_w]
                          rfl
                        refine pure_ (i := 3) (N := some 38) (v := ?_) (a' := ?_) #[true, true, true, true, false, false, false, false, false, false, false, false, false, false, false, false, false] rfl rfl (any_of HT_.out (by kernel_rfl)) (fun _ _ _ h => h) (Or.inl ⟨by rfl, ?_⟩) ?_ ?_
                        rotate_left
                        · intro w'
                          go_simp
                          with_reducible rfl
                        rotate_left
                        · simp only [Act.put, List.setIfInBounds_toArray, List.set_cons_zero, List.set_cons_succ, i64_w, i32_w]
                          rfl
                        refine pure_ (i := 4) (N := some 39) (v := ?_) (a' := ?_) #[true, true, true, true, true, false, false, false, false, false, false, false, false, false, false, false, false] rfl rfl (any_of HT_.out (by kernel_rfl)) (fun _ _ _ h => h) (Or.inl ⟨by rfl, ?_⟩) ?_ ?_
                        rotate_left
                        · intro w'
                          go_simp
                          with_reducible rfl
                        rotate_left
                        · simp only [Act.put, List.setIfInBounds_toArray, List.set_cons_zero, List.set_cons_succ, i64_w, i32_w]
                          rfl
                        refine pure_ (i := 5) (N := some 40) (v := ?_) (a' := ?_) #[true, true, true, true, true, true, false, false, false, false, false, false, false, false, false, false, false] rfl rfl (any_of HT_.out (by kernel_rfl)) (fun _ _ _ h => h) (Or.inl ⟨by rfl, ?_⟩) ?_ ?_
                        rotate_left
                        · intro w'
                          go_simp
                          with_reducible rfl
                        rotate_left
                        · simp only [Act.put, List.setIfInBounds_toArray, List.set_cons_zero, List.set_cons_succ, i64_w, i32_w]
                          rfl
                        refine pure_ (i := 6) (N := some 41) (v := ?_) (a' := ?_) #[true, true, true, true, true, true, true, false, false, false, false, false, false, false, false, false, false] rfl rfl (any_of HT_.out (by kernel_rfl)) (fun _ _ _ h => h) (Or.inl ⟨by rfl, ?_⟩) ?_ ?_
                        rotate_left
                        · intro w'
                          go_simp
                          with_reducible rfl
                        rotate_left
                        · simp only [Act.put, List.setIfInBounds_toArray, List.set_cons_zero, List.set_cons_succ, i64_w, i32_w]
                          rfl
                        refine pure_ (i := 7) (N := some 42) (v := ?_) (a' := ?_) #[true, true, true, true, true, true, true, true, false, false, false, false, false, false, false, false, false] rfl rfl (any_of HT_.out (by kernel_rfl)) (fun _ _ _ h => h) (Or.inl ⟨by rfl, ?_⟩) ?_ ?_
                        rotate_left
                        · intro w'
                          go_simp
                          with_reducible rfl
                        rotate_left
                        · simp only [Act.put, List.setIfInBounds_toArray, List.set_cons_zero, List.set_cons_succ, i64_w, i32_w]
                          rfl
                        refine pure_ (i := 8) (N := some 43) (v := ?_) (a' := ?_) #[true, true, true, true, true, true, true, true, true, false, false, false, false, false, false, false, false] rfl rfl (any_of HT_.out (by kernel_rfl)) (fun _ _ _ h => h) (Or.inl ⟨by rfl, ?_⟩) ?_ ?_
                        rotate_left
                        · intro w'
                          go_simp
                          with_reducible rfl
                        rotate_left
                        · simp only [Act.put, List.setIfInBounds_toArray, List.set_cons_zero, List.set_cons_succ, i64_w, i32_w]
                          rfl
                        refine pure_ (i := 9) (N := some 44) (v := ?_) (a' := ?_) #[true, true, true, true, true, true, true, true, true, true, false, false, false, false, false, false, false] rfl rfl (any_of HT_.out (by kernel_rfl)) (fun _ _ _ h => h) (Or.inl ⟨by rfl, ?_⟩) ?_ ?_
                        rotate_left
                        · intro w'
                          go_simp
                          with_reducible rfl
                        rotate_left
                        · simp only [Act.put, List.setIfInBounds_toArray, List.set_cons_zero, List.set_cons_succ, i64_w, i32_w]
                          rfl
                        refine pure_ (i := 10) (N := some 45) (v := ?_) (a' := ?_) #[true, true, true, true, true, true, true, true, true, true, true, false, false, false, false, false, false] rfl rfl (any_of HT_.out (by kernel_rfl)) (fun _ _ _ h => h) (Or.inl ⟨by rfl, ?_⟩) ?_ ?_
                        rotate_left
                        · intro w'
                          go_simp
                          with_reducible rfl
                        rotate_left
                        · simp only [Act.put, List.setIfInBounds_toArray, List.set_cons_zero, List.set_cons_succ, i64_w, i32_w]
                          rfl
                        refine one_ (i := 11) (N := some 46) #[true, true, true, true, true, true, true, true, true, true, true, true, false, false, false, false, false] rfl rfl (one_of HT_.out (by kernel_rfl)) (by decide) (fun K hK => ?_)
                        refine goes_ Try.func11 (by kernel_rfl) rfl #[.slice A40 y290.length c40, .slice A41 y294.length c41, .int .i64 t286] (by rfl) rfl rfl (by (try simp only [List.map_toArray, List.map_cons, List.map_nil]); first | done | rfl | (simp only [List.length_drop, List.length_take]; rfl) | ((try rw [KY31.out]); (try rw [KY32.out]); (try rw [KY36.out]); (try rw [KY37.out]); (try rw [KY40.out]); (try rw [KY41.out]); rfl)) ?_
                        with_reducible refine (channels_Apart.calls k1 _ _ y290 _ _ y294 t286 t298 t299 _ ?side1 ?side2 ?side3 ?side4 A17.out).mono ?_
                        (case side1 => repeat (first | exact (by repeat (first | (with_reducible exact HR293.out) | (with_reducible refine Kd.C_alloc ?_ _) | (with_reducible refine Kd.C_drewN ?_ _) | (with_reducible refine Kd.C_drew ?_) | exact HR293.out)) | (with_reducible refine Kd.C_alloc ?_ _) | (with_reducible refine Kd.C_drewN ?_ _) | (with_reducible refine Kd.C_drew ?_)))
                        (case side2 => exact HC293.out)
                        (case side3 => repeat (first | exact (by repeat (first | (with_reducible exact HR297.out) | (with_reducible refine Kd.C_alloc ?_ _) | (with_reducible refine Kd.C_drewN ?_ _) | (with_reducible refine Kd.C_drew ?_) | exact HR297.out)) | (with_reducible refine Kd.C_alloc ?_ _) | (with_reducible refine Kd.C_drewN ?_ _) | (with_reducible refine Kd.C_drew ?_)))
                        (case side4 => exact HC297.out)
                        rintro e w42 ⟨rfl, hb⟩
                        refine ⟨_, rfl, ?_⟩
                        have n0_ := Aside0.mk (Kd.S_below (by (with_reducible repeat (first | apply Kd.S_alloc | apply Kd.S_drewN | apply Kd.S_drew)); exact HO_3.out) hb)
                        have n1_ := Aside0.mk (Kd.S_below (by (with_reducible repeat (first | apply Kd.S_alloc | apply Kd.S_drewN | apply Kd.S_drew)); exact HO_4.out) hb)
                        have n2_ := Aside0.mk (Kd.C_below (by repeat (first | (with_reducible exact HR293.out) | (with_reducible refine Kd.C_alloc ?_ _) | (with_reducible refine Kd.C_drewN ?_ _) | (with_reducible refine Kd.C_drew ?_) | exact HR293.out)) hb)
                        have n3_ := Aside0.mk (Kd.C_below (by repeat (first | (with_reducible exact HR297.out) | (with_reducible refine Kd.C_alloc ?_ _) | (with_reducible refine Kd.C_drewN ?_ _) | (with_reducible refine Kd.C_drew ?_) | exact HR297.out)) hb)
                        have n4_ := Aside0.mk (below_step (by repeat (first | (with_reducible first | exact HB.out | apply below_alloc | apply pw_below_drewN | apply below_drew1) | exact HB.out)) hb)
                        clear HO_3
                        clear HO_4
                        clear HR293
                        clear HR297
                        clear HB
                        have HO_3 := n0_
                        have HO_4 := n1_
                        have HR293 := n2_
                        have HR297 := n3_
                        have HB := n4_
                        clear n0_ n1_ n2_ n3_ n4_
                        (try clear hb)
                        (try clear hb2)
                        (try clear hk)
                        (try clear hi)
                        refine hK.out _ _ trivial (fun hHeld => ?_)
                        clear hK K
                        refine norm_ (a' := ?_) ?_ ?_
                        rotate_left
                        · show Act.put _ (some 46) _ = _
                          simp only [Act.put, List.setIfInBounds_toArray, List.set_cons_zero, List.set_cons_succ, i64_w, i32_w]
                          rfl
                        refine pure_ (i := 12) (N := some 34) (v := ?_) (a' := ?_) #[true, true, true, true, true, true, true, true, true, true, true, true, true, false, false, false, false] rfl rfl (any_of HT_.out (by kernel_rfl)) (fun _ _ _ h => h) (Or.inl ⟨by rfl, ?_⟩) ?_ ?_
                        rotate_left
                        · intro w'
                          go_simp
                          with_reducible rfl
                        rotate_left
                        · simp only [Act.put, List.setIfInBounds_toArray, List.set_cons_zero, List.set_cons_succ, i64_w, i32_w]
                          rfl
                        refine pure_ (i := 13) (N := some 47) (v := ?_) (a' := ?_) #[true, true, true, true, true, true, true, true, true, true, true, true, true, true, false, false, false] rfl rfl (any_of HT_.out (by kernel_rfl)) (fun _ _ _ h => h) (Or.inl ⟨by rfl, ?_⟩) ?_ ?_
                        rotate_left
                        · intro w'
                          go_simp
                          with_reducible rfl
                        rotate_left
                        · simp only [Act.put, List.setIfInBounds_toArray, List.set_cons_zero, List.set_cons_succ, i64_w, i32_w]
                          rfl
                        refine pure_ (i := 14) (N := some 48) (v := ?_) (a' := ?_) #[true, true, true, true, true, true, true, true, true, true, true, true, true, true, true, false, false] rfl rfl (any_of HT_.out (by kernel_rfl)) (fun _ _ _ h => h) (Or.inl ⟨by rfl, ?_⟩) ?_ ?_
                        rotate_left
                        · intro w'
                          go_simp
                          with_reducible rfl
                        rotate_left
                        · simp only [Act.put, List.setIfInBounds_toArray, List.set_cons_zero, List.set_cons_succ, i64_w, i32_w]
                          rfl
                        refine pure_ (i := 15) (N := some 11) (v := ?_) (a' := ?_) #[true, true, true, true, true, true, true, true, true, true, true, true, true, true, true, true, false] rfl rfl (any_of HT_.out (by kernel_rfl)) (fun _ _ _ h => h) (Or.inl ⟨by rfl, ?_⟩) ?_ ?_
                        rotate_left
                        · intro w'
                          go_simp
                          with_reducible rfl
                        rotate_left
                        · simp only [Act.put, List.setIfInBounds_toArray, List.set_cons_zero, List.set_cons_succ, i64_w, i32_w]
                          rfl
                        refine pure_ (i := 16) (N := some 12) (v := ?_) (a' := ?_) #[true, true, true, true, true, true, true, true, true, true, true, true, true, true, true, true, true] rfl rfl (any_of HT_.out (by kernel_rfl)) (fun _ _ _ h => h) (Or.inl ⟨by rfl, ?_⟩) ?_ ?_
                        rotate_left
                        · intro w'
                          go_simp
                          with_reducible rfl
                        rotate_left
                        · simp only [Act.put, List.setIfInBounds_toArray, List.set_cons_zero, List.set_cons_succ, i64_w, i32_w]
                          rfl
                        refine done_ (done_of HT_.out (by kernel_rfl)) ?_
                        try go_wp2
                        have n0_ := Aside0.mk (Kd.S_drew HO_3.out)
                        have n1_ := Aside0.mk (Kd.S_drew HO_4.out)
                        have n2_ := Aside0.mk (Kd.C_drew HR293.out)
                        have n3_ := Aside0.mk (Kd.C_drew HR297.out)
                        have n4_ := Aside0.mk (below_drew1 HB.out)
                        clear HO_3
                        clear HO_4
                        clear HR293
                        clear HR297
                        clear HB
                        have HO_3 := n0_
                        have HO_4 := n1_
                        have HR293 := n2_
                        have HR297 := n3_
                        have HB := n4_
                        clear n0_ n1_ n2_ n3_ n4_
                        have p300 : 0 ≤ (0 : Int) := (by omega)
                        have q300 : 0 < (t280.length : Int) := of_decide_eq_true (by first | (with_reducible assumption) | assumption)
                        obtain ⟨ad300, A300_0, c300_0, e300, hx300_0, hl300_0, hi300_0⟩ := at_L1 (Kd.S_reads' HO_3.out).2.2 0 p300 q300
                        cases e300
                        obtain ⟨ce300, hce300, hMe300, hcc300⟩ := Kd.S_get HO_3.out [] 0 p300 (by first | exact q300 | exact of_decide_eq_true (by first | (with_reducible assumption) | assumption) | (have e_ := (Kd.S_reads' HO_3.out).1; omega))
                        obtain ⟨ve300_0, rfl, ge300_0⟩ := hMe300
                        have hv300_0 := hcc300 0 _ rfl
                        rw [Nat.add_zero, show ((Kd.slice 3 (Kd.int .i64))).sz = 1 from rfl, Nat.mul_one] at hv300_0
                        replace hv300_0 := Option.some.inj (hv300_0.symm.trans hx300_0)
                        rw [hv300_0] at ge300_0
                        have HL300_0 := Aside0.mk (show Kd.R (Kd.int .i64) 3 _ _ _ _ (rd_L1 t280 0) from ge300_0)
                        clear hv300_0 ge300_0
                        clear hcc300 hce300
                        have qi300 : (0 < t280.length) = True := eq_true (by omega)
                        (try rw [show ((0 : Int)).toNat = 0 from rfl] at hx300_0)
                        (try rw [Addr.add_zero'] at hx300_0)
                        have HR300_0 := Aside0.mk hi300_0
                        have HC300_0 := Aside0.mk hl300_0
                        clear hi300_0 hl300_0
                        replace p300 := eq_true p300
                        replace q300 := eq_true q300
                        have p301 : 0 ≤ (0 : Int) := (by omega)
                        have q301 : 0 < (t283.length : Int) := of_decide_eq_true (by first | (with_reducible assumption) | assumption)
                        obtain ⟨ad301, A301_0, c301_0, e301, hx301_0, hl301_0, hi301_0⟩ := at_L1 (Kd.S_reads' HO_4.out).2.2 0 p301 q301
                        cases e301
                        obtain ⟨ce301, hce301, hMe301, hcc301⟩ := Kd.S_get HO_4.out [] 0 p301 (by first | exact q301 | exact of_decide_eq_true (by first | (with_reducible assumption) | assumption) | (have e_ := (Kd.S_reads' HO_4.out).1; omega))
                        obtain ⟨ve301_0, rfl, ge301_0⟩ := hMe301
                        have hv301_0 := hcc301 0 _ rfl
                        rw [Nat.add_zero, show ((Kd.slice 3 (Kd.int .i64))).sz = 1 from rfl, Nat.mul_one] at hv301_0
                        replace hv301_0 := Option.some.inj (hv301_0.symm.trans hx301_0)
                        rw [hv301_0] at ge301_0
                        have HL301_0 := Aside0.mk (show Kd.R (Kd.int .i64) 3 _ _ _ _ (rd_L1 t283 0) from ge301_0)
                        clear hv301_0 ge301_0
                        clear hcc301 hce301
                        have qi301 : (0 < t283.length) = True := eq_true (by omega)
                        (try rw [show ((0 : Int)).toNat = 0 from rfl] at hx301_0)
                        (try rw [Addr.add_zero'] at hx301_0)
                        have HR301_0 := Aside0.mk hi301_0
                        have HC301_0 := Aside0.mk hl301_0
                        clear hi301_0 hl301_0
                        replace p301 := eq_true p301
                        replace q301 := eq_true q301
                        refine start_ (n := 9) (S := fun w' => w'.cell? ad300 = some (.slice A300_0 (rd_L1 t280 0).length c300_0) ∧ w'.cell? ad301 = some (.slice A301_0 (rd_L1 t283 0).length c301_0)) (ds := []) #[false, false, false, false, false, false, false, false, false] (by kernel_rfl) rfl rfl ⟨hx300_0, hx301_0⟩ (fun hHeld => ?_); refine with_tabW shapesearchlaw16_ChannelsSums.tab11 shapesearchlaw16_ChannelsSums.bits11 (fun HT_ HW_ => ?_)
                        generalize w42.drew = w43 at HO_3 HO_4 HR293 HR297 HB HL300_0 HL301_0 HR300_0 HR301_0 hx300_0 hx301_0 hHeld ⊢
                        refine pure_ (i := 0) (N := some 54) (v := ?_) (a' := ?_) #[true, false, false, false, false, false, false, false, false] rfl rfl (any_of HT_.out (by kernel_rfl)) (fun _ _ _ h => h) (Or.inl ⟨by rfl, ?_⟩) ?_ ?_
                        rotate_left
                        · intro w'
                          go_simp
                          with_reducible rfl
                        rotate_left
                        · simp only [Act.put, List.setIfInBounds_toArray, List.set_cons_zero, List.set_cons_succ, i64_w, i32_w]
                          rfl
                        refine pure_ (i := 1) (N := some 55) (v := ?_) (a' := ?_) #[true, true, false, false, false, false, false, false, false] rfl rfl (any_of HT_.out (by kernel_rfl)) (fun _ _ _ h => h) (Or.inl ⟨by rfl, ?_⟩) ?_ ?_
                        rotate_left
                        · intro w'
                          go_simp
                          with_reducible rfl
                        rotate_left
                        · simp only [Act.put, List.setIfInBounds_toArray, List.set_cons_zero, List.set_cons_succ, i64_w, i32_w]
                          rfl
                        refine pure_ (i := 4) (N := some 58) (v := ?_) (a' := ?_) #[true, true, false, false, true, false, false, false, false] rfl rfl (any_of HT_.out (by kernel_rfl)) (fun _ _ _ h => h) (Or.inl ⟨by rfl, ?_⟩) ?_ ?_
                        rotate_left
                        · intro w'
                          go_simp
                          with_reducible rfl
                        rotate_left
                        · simp only [Act.put, List.setIfInBounds_toArray, List.set_cons_zero, List.set_cons_succ, i64_w, i32_w]
                          rfl
                        refine pure_ (i := 5) (N := some 59) (v := ?_) (a' := ?_) #[true, true, false, false, true, true, false, false, false] rfl rfl (any_of HT_.out (by kernel_rfl)) (fun _ _ _ h => h) (Or.inl ⟨by rfl, ?_⟩) ?_ ?_
                        rotate_left
                        · intro w'
                          go_simp
                          with_reducible rfl
                        rotate_left
                        · simp only [Act.put, List.setIfInBounds_toArray, List.set_cons_zero, List.set_cons_succ, i64_w, i32_w]
                          rfl
                        refine take_ (i := 2) (N := some 56) (v := ?_) (a' := ?_) #[true, true, true, false, true, true, false, false, false] rfl rfl (take_ofW HT_.out HW_.out (by kernel_rfl)) (fun _ _ _ h => h) (Or.inl ⟨by rfl, ?_⟩) hHeld ?_ ?_
                        rotate_left
                        · rintro w' ⟨s0, s1⟩
                          go_simp
                          with_reducible rfl
                        rotate_left
                        · simp only [Act.put, List.setIfInBounds_toArray, List.set_cons_zero, List.set_cons_succ, i64_w, i32_w]
                          rfl
                        refine pure_ (i := 3) (N := some 57) (v := ?_) (a' := ?_) #[true, true, true, true, true, true, false, false, false] rfl rfl (any_of HT_.out (by kernel_rfl)) (fun _ _ _ h => h) (Or.inl ⟨by rfl, ?_⟩) ?_ ?_
                        rotate_left
                        · intro w'
                          go_simp
                          with_reducible rfl
                        rotate_left
                        · simp only [Act.put, List.setIfInBounds_toArray, List.set_cons_zero, List.set_cons_succ, i64_w, i32_w]
                          rfl
                        refine take_ (i := 6) (N := some 60) (v := ?_) (a' := ?_) #[true, true, true, true, true, true, true, false, false] rfl rfl (take_ofW HT_.out HW_.out (by kernel_rfl)) (fun _ _ _ h => h) (Or.inl ⟨by rfl, ?_⟩) hHeld ?_ ?_
                        rotate_left
                        · rintro w' ⟨s0, s1⟩
                          go_simp
                          with_reducible rfl
                        rotate_left
                        · simp only [Act.put, List.setIfInBounds_toArray, List.set_cons_zero, List.set_cons_succ, i64_w, i32_w]
                          rfl
                        refine pure_ (i := 7) (N := some 61) (v := ?_) (a' := ?_) #[true, true, true, true, true, true, true, true, false] rfl rfl (any_of HT_.out (by kernel_rfl)) (fun _ _ _ h => h) (Or.inl ⟨by rfl, ?_⟩) ?_ ?_
                        rotate_left
                        · intro w'
                          go_simp
                          with_reducible rfl
                        rotate_left
                        · simp only [Act.put, List.setIfInBounds_toArray, List.set_cons_zero, List.set_cons_succ, i64_w, i32_w]
                          rfl
                        refine pure_ (i := 8) (N := some 62) (v := ?_) (a' := ?_) #[true, true, true, true, true, true, true, true, true] rfl rfl (any_of HT_.out (by kernel_rfl)) (fun _ _ _ h => h) (Or.inl ⟨by rfl, ?_⟩) ?_ ?_
                        rotate_left
                        · intro w'
                          go_simp
                          with_reducible rfl
                        rotate_left
                        · simp only [Act.put, List.setIfInBounds_toArray, List.set_cons_zero, List.set_cons_succ, i64_w, i32_w]
                          rfl
                        refine done_ (done_of HT_.out (by kernel_rfl)) ?_
                        try go_wp2
                        go_roundg k1
                        case measure => have := HK1.out; omega
                        case rel => exact ⟨(wrap64 (x8_1 + t298)), (x9_1), (wrap64 (x31_1 + 1)), (by first | rfl | (simp; done) | (simp [*]; done)), (by first | rfl | (simp; done) | (simp [*]; done)), (by first | rfl | (simp; done) | (simp [*]; done)), H', ⟨by have := HK1.out; omega⟩, ⟨by (with_reducible repeat (first | apply Kd.S_alloc | apply Kd.S_drewN | apply Kd.S_drew)); exact HO_3.out⟩, ⟨by (with_reducible repeat (first | apply Kd.S_alloc | apply Kd.S_drewN | apply Kd.S_drew)); exact HO_4.out⟩, ⟨by repeat (first | (with_reducible first | exact HB.out | apply below_alloc | apply pw_below_drewN | apply below_drew1) | exact HB.out)⟩⟩
                    · rw [if_neg c20] at H
                      exact absurd H (by simp)
                  · rw [if_neg c19] at H
                    exact absurd H (by simp)
                · rw [if_neg c18] at H
                  have c18b0 : (t299 == 0) = false := beq_eq_false_iff_ne.mpr c18
                  have c18b1 : (t299 != 0) = true := bne_iff_ne.mpr c18
                  exact absurd ((Option.some.inj H).trans HTR_.out) (by decide)
              · rw [if_neg c16] at H
                exact absurd H (by simp)
            · rw [if_neg c13] at H
              exact absurd H (by simp)
          · rw [if_neg c12] at H
            exact absurd H (by simp)
        · rw [if_neg c11] at H
          exact absurd H (by simp)
      · rw [if_neg c10] at H
        have c10b0 : decide (x31_1 < (t280.length : Int)) = false := decide_eq_false c10
        clear c10
        by_cases c44 : 0 < (t280.length : Int)
        · rw [if_pos c44] at H
          have c44b0 : decide (0 < (t280.length : Int)) = true := decide_eq_true c44
          have c44b1 : decide (0 < t280.length) = true := decide_eq_true (by omega)
          clear c44
          by_cases c45 : 0 < (t283.length : Int)
          · rw [if_pos c45] at H
            have c45b0 : decide (0 < (t283.length : Int)) = true := decide_eq_true c45
            have c45b1 : decide (0 < t283.length) = true := decide_eq_true (by omega)
            clear c45
            by_cases c46 : ((rd_L1 t280 0).length : Int) = ((rd_L1 t283 0).length : Int)
            · rw [if_pos c46] at H
              have c46b0 : (((rd_L1 t280 0).length : Int) == ((rd_L1 t283 0).length : Int)) = true := beq_iff_eq.mpr c46
              have c46b1 : (((rd_L1 t280 0).length : Int) != ((rd_L1 t283 0).length : Int)) = false := bne_eq_false_iff_eq.mpr c46
              have c46b2 : ((rd_L1 t280 0).length == (rd_L1 t283 0).length) = true := by first | simpa using c46 | (simp at c46 ⊢; omega)
              clear c46
              replace H := Option.bind_eq_some_iff.mp H
              obtain ⟨⟨t314, t315⟩, A470, H⟩ := H
              replace H : (if t289 = 0 then (if t315 = 0 then (if t288 = x8_1 then (if t314 = x9_1 then ((shapesearchlaw16_awake.f k1).bind fun t316 => (some t316)) else (some false)) else (some false)) else (some false)) else (some false)) = some r := H
              have A47 := Aside0.mk A470
              clear A470
              have HC48 := Aside0.mk H
              clear H
              try go_wp2
              have n0_ := Aside0.mk (Kd.S_drew HO_3.out)
              have n1_ := Aside0.mk (Kd.S_drew HO_4.out)
              have n2_ := Aside0.mk (below_drew1 HB.out)
              clear HO_3
              clear HO_4
              clear HB
              have HO_3 := n0_
              have HO_4 := n1_
              have HB := n2_
              clear n0_ n1_ n2_
              have p312 : 0 ≤ (0 : Int) := (by omega)
              have q312 : 0 < (t280.length : Int) := of_decide_eq_true (by first | (with_reducible assumption) | assumption)
              obtain ⟨ad312, A312_0, c312_0, e312, hx312_0, hl312_0, hi312_0⟩ := at_L1 (Kd.S_reads' HO_3.out).2.2 0 p312 q312
              cases e312
              obtain ⟨ce312, hce312, hMe312, hcc312⟩ := Kd.S_get HO_3.out [] 0 p312 (by first | exact q312 | exact of_decide_eq_true (by first | (with_reducible assumption) | assumption) | (have e_ := (Kd.S_reads' HO_3.out).1; omega))
              obtain ⟨ve312_0, rfl, ge312_0⟩ := hMe312
              have hv312_0 := hcc312 0 _ rfl
              rw [Nat.add_zero, show ((Kd.slice 3 (Kd.int .i64))).sz = 1 from rfl, Nat.mul_one] at hv312_0
              replace hv312_0 := Option.some.inj (hv312_0.symm.trans hx312_0)
              rw [hv312_0] at ge312_0
              have HL312_0 := Aside0.mk (show Kd.R (Kd.int .i64) 3 _ _ _ _ (rd_L1 t280 0) from ge312_0)
              clear hv312_0 ge312_0
              clear hcc312 hce312
              have qi312 : (0 < t280.length) = True := eq_true (by omega)
              (try rw [show ((0 : Int)).toNat = 0 from rfl] at hx312_0)
              (try rw [Addr.add_zero'] at hx312_0)
              have HR312_0 := Aside0.mk hi312_0
              have HC312_0 := Aside0.mk hl312_0
              clear hi312_0 hl312_0
              replace p312 := eq_true p312
              replace q312 := eq_true q312
              have p313 : 0 ≤ (0 : Int) := (by omega)
              have q313 : 0 < (t283.length : Int) := of_decide_eq_true (by first | (with_reducible assumption) | assumption)
              obtain ⟨ad313, A313_0, c313_0, e313, hx313_0, hl313_0, hi313_0⟩ := at_L1 (Kd.S_reads' HO_4.out).2.2 0 p313 q313
              cases e313
              obtain ⟨ce313, hce313, hMe313, hcc313⟩ := Kd.S_get HO_4.out [] 0 p313 (by first | exact q313 | exact of_decide_eq_true (by first | (with_reducible assumption) | assumption) | (have e_ := (Kd.S_reads' HO_4.out).1; omega))
              obtain ⟨ve313_0, rfl, ge313_0⟩ := hMe313
              have hv313_0 := hcc313 0 _ rfl
              rw [Nat.add_zero, show ((Kd.slice 3 (Kd.int .i64))).sz = 1 from rfl, Nat.mul_one] at hv313_0
              replace hv313_0 := Option.some.inj (hv313_0.symm.trans hx313_0)
              rw [hv313_0] at ge313_0
              have HL313_0 := Aside0.mk (show Kd.R (Kd.int .i64) 3 _ _ _ _ (rd_L1 t283 0) from ge313_0)
              clear hv313_0 ge313_0
              clear hcc313 hce313
              have qi313 : (0 < t283.length) = True := eq_true (by omega)
              (try rw [show ((0 : Int)).toNat = 0 from rfl] at hx313_0)
              (try rw [Addr.add_zero'] at hx313_0)
              have HR313_0 := Aside0.mk hi313_0
              have HC313_0 := Aside0.mk hl313_0
              clear hi313_0 hl313_0
              replace p313 := eq_true p313
              replace q313 := eq_true q313
              refine start_ (n := 9) (S := fun w' => w'.cell? ad312 = some (.slice A312_0 (rd_L1 t280 0).length c312_0) ∧ w'.cell? ad313 = some (.slice A313_0 (rd_L1 t283 0).length c313_0)) (ds := []) #[false, false, false, false, false, false, false, false, false] (by kernel_rfl) rfl rfl ⟨hx312_0, hx313_0⟩ (fun hHeld => ?_); refine with_tabW shapesearchlaw16_ChannelsSums.tab17 shapesearchlaw16_ChannelsSums.bits17 (fun HT_ HW_ => ?_)
              generalize wr.drew = w49 at HO_3 HO_4 HB HL312_0 HL313_0 HR312_0 HR313_0 hx312_0 hx313_0 hHeld ⊢
              refine pure_ (i := 0) (N := some 83) (v := ?_) (a' := ?_) #[true, false, false, false, false, false, false, false, false] rfl rfl (any_of HT_.out (by kernel_rfl)) (fun _ _ _ h => h) (Or.inl ⟨by rfl, ?_⟩) ?_ ?_
              rotate_left
              · intro w'
                go_simp
                with_reducible rfl
              rotate_left
              · simp only [Act.put, List.setIfInBounds_toArray, List.set_cons_zero, List.set_cons_succ, i64_w, i32_w]
                rfl
              refine pure_ (i := 1) (N := some 84) (v := ?_) (a' := ?_) #[true, true, false, false, false, false, false, false, false] rfl rfl (any_of HT_.out (by kernel_rfl)) (fun _ _ _ h => h) (Or.inl ⟨by rfl, ?_⟩) ?_ ?_
              rotate_left
              · intro w'
                go_simp
                with_reducible rfl
              rotate_left
              · simp only [Act.put, List.setIfInBounds_toArray, List.set_cons_zero, List.set_cons_succ, i64_w, i32_w]
                rfl
              refine pure_ (i := 4) (N := some 87) (v := ?_) (a' := ?_) #[true, true, false, false, true, false, false, false, false] rfl rfl (any_of HT_.out (by kernel_rfl)) (fun _ _ _ h => h) (Or.inl ⟨by rfl, ?_⟩) ?_ ?_
              rotate_left
              · intro w'
                go_simp
                with_reducible rfl
              rotate_left
              · simp only [Act.put, List.setIfInBounds_toArray, List.set_cons_zero, List.set_cons_succ, i64_w, i32_w]
                rfl
              refine pure_ (i := 5) (N := some 88) (v := ?_) (a' := ?_) #[true, true, false, false, true, true, false, false, false] rfl rfl (any_of HT_.out (by kernel_rfl)) (fun _ _ _ h => h) (Or.inl ⟨by rfl, ?_⟩) ?_ ?_
              rotate_left
              · intro w'
                go_simp
                with_reducible rfl
              rotate_left
              · simp only [Act.put, List.setIfInBounds_toArray, List.set_cons_zero, List.set_cons_succ, i64_w, i32_w]
                rfl
              refine take_ (i := 2) (N := some 85) (v := ?_) (a' := ?_) #[true, true, true, false, true, true, false, false, false] rfl rfl (take_ofW HT_.out HW_.out (by kernel_rfl)) (fun _ _ _ h => h) (Or.inl ⟨by rfl, ?_⟩) hHeld ?_ ?_
              rotate_left
              · rintro w' ⟨s0, s1⟩
                go_simp
                with_reducible rfl
              rotate_left
              · simp only [Act.put, List.setIfInBounds_toArray, List.set_cons_zero, List.set_cons_succ, i64_w, i32_w]
                rfl
              refine pure_ (i := 3) (N := some 86) (v := ?_) (a' := ?_) #[true, true, true, true, true, true, false, false, false] rfl rfl (any_of HT_.out (by kernel_rfl)) (fun _ _ _ h => h) (Or.inl ⟨by rfl, ?_⟩) ?_ ?_
              rotate_left
              · intro w'
                go_simp
                with_reducible rfl
              rotate_left
              · simp only [Act.put, List.setIfInBounds_toArray, List.set_cons_zero, List.set_cons_succ, i64_w, i32_w]
                rfl
              refine take_ (i := 6) (N := some 89) (v := ?_) (a' := ?_) #[true, true, true, true, true, true, true, false, false] rfl rfl (take_ofW HT_.out HW_.out (by kernel_rfl)) (fun _ _ _ h => h) (Or.inl ⟨by rfl, ?_⟩) hHeld ?_ ?_
              rotate_left
              · rintro w' ⟨s0, s1⟩
                go_simp
                with_reducible rfl
              rotate_left
              · simp only [Act.put, List.setIfInBounds_toArray, List.set_cons_zero, List.set_cons_succ, i64_w, i32_w]
                rfl
              refine pure_ (i := 7) (N := some 90) (v := ?_) (a' := ?_) #[true, true, true, true, true, true, true, true, false] rfl rfl (any_of HT_.out (by kernel_rfl)) (fun _ _ _ h => h) (Or.inl ⟨by rfl, ?_⟩) ?_ ?_
              rotate_left
              · intro w'
                go_simp
                with_reducible rfl
              rotate_left
              · simp only [Act.put, List.setIfInBounds_toArray, List.set_cons_zero, List.set_cons_succ, i64_w, i32_w]
                rfl
              refine pure_ (i := 8) (N := some 91) (v := ?_) (a' := ?_) #[true, true, true, true, true, true, true, true, true] rfl rfl (any_of HT_.out (by kernel_rfl)) (fun _ _ _ h => h) (Or.inl ⟨by rfl, ?_⟩) ?_ ?_
              rotate_left
              · intro w'
                go_simp
                with_reducible rfl
              rotate_left
              · simp only [Act.put, List.setIfInBounds_toArray, List.set_cons_zero, List.set_cons_succ, i64_w, i32_w]
                rfl
              refine done_ (done_of HT_.out (by kernel_rfl)) ?_
              go_upto_region 19 with (first | ((with_reducible refine gate_callee (f := 14) rfl ?_); refine goesL_ (some 95) rfl rfl Try.func14 (by kernel_rfl) rfl #[.slice (some ad312) t280.length co7, .slice (some ad313) t283.length co8] rfl (by (try simp only [List.map_toArray, List.map_cons, List.map_nil]); first | done | rfl | (simp only [List.length_drop, List.length_take]; rfl) | ((try rw [KY31.out]); (try rw [KY32.out]); (try rw [KY36.out]); (try rw [KY37.out]); (try rw [KY40.out]); (try rw [KY41.out]); rfl)) ?_; (with_reducible refine (channels_Euclid.calls k1 _ _ t280 _ _ t283 t314 t315 _ ?side1 ?side2 ?side3 ?side4 A47.out).mono ?_); (case side1 => repeat (first | exact (Kd.S_reads' HO_3.out).2.2 | (with_reducible refine Kd.C_alloc ?_ _) | (with_reducible refine Kd.C_drewN ?_ _) | (with_reducible refine Kd.C_drew ?_))); (case side2 => exact (Kd.S_reads' HO_3.out).2.1); (case side3 => repeat (first | exact (Kd.S_reads' HO_4.out).2.2 | (with_reducible refine Kd.C_alloc ?_ _) | (with_reducible refine Kd.C_drewN ?_ _) | (with_reducible refine Kd.C_drew ?_))); (case side4 => exact (Kd.S_reads' HO_4.out).2.1); rintro e w50 ⟨rfl, hb⟩; refine ⟨_, rfl, ?_⟩; have n0_ := Aside0.mk (Kd.S_below (by (with_reducible repeat (first | apply Kd.S_alloc | apply Kd.S_drewN | apply Kd.S_drew)); exact HO_3.out) hb); have n1_ := Aside0.mk (Kd.S_below (by (with_reducible repeat (first | apply Kd.S_alloc | apply Kd.S_drewN | apply Kd.S_drew)); exact HO_4.out) hb); have n2_ := Aside0.mk (Kd.R_below (by (with_reducible repeat (first | apply Kd.R_alloc | apply Kd.R_drewN | apply Kd.R_drew)); exact HL312_0.out) hb); have n3_ := Aside0.mk (Kd.R_below (by (with_reducible repeat (first | apply Kd.R_alloc | apply Kd.R_drewN | apply Kd.R_drew)); exact HL313_0.out) hb); have n4_ := Aside0.mk (Kd.C_below (by repeat (first | (with_reducible exact HR312_0.out) | (with_reducible refine Kd.C_alloc ?_ _) | (with_reducible refine Kd.C_drewN ?_ _) | (with_reducible refine Kd.C_drew ?_) | exact HR312_0.out)) hb); have n5_ := Aside0.mk (Kd.C_below (by repeat (first | (with_reducible exact HR313_0.out) | (with_reducible refine Kd.C_alloc ?_ _) | (with_reducible refine Kd.C_drewN ?_ _) | (with_reducible refine Kd.C_drew ?_) | exact HR313_0.out)) hb); have n6_ := Aside0.mk (below_step (by repeat (first | (with_reducible first | exact HB.out | apply below_alloc | apply pw_below_drewN | apply below_drew1) | exact HB.out)) hb); clear HO_3; clear HO_4; clear HL312_0; clear HL313_0; clear HR312_0; clear HR313_0; clear HB; have HO_3 := n0_; have HO_4 := n1_; have HL312_0 := n2_; have HL313_0 := n3_; have HR312_0 := n4_; have HR313_0 := n5_; have HB := n6_; clear n0_ n1_ n2_ n3_ n4_ n5_ n6_; (try clear hb); (try clear hb2); (try clear hk); (try clear hi)))
              (try simp only [Act.put, List.setIfInBounds_toArray, List.set_cons_zero, List.set_cons_succ])
              have H := HC48.out
              clear HC48
              by_cases c51 : t289 = 0
              · rw [if_pos c51] at H
                have c51b0 : (t289 == 0) = true := beq_iff_eq.mpr c51
                have c51b1 : (t289 != 0) = false := bne_eq_false_iff_eq.mpr c51
                clear c51
                (first | rw [c51b0] | (simp only [i64_w, i32_w]; rw [c51b0]) | skip)
                by_cases c52 : t315 = 0
                · rw [if_pos c52] at H
                  have c52b0 : (t315 == 0) = true := beq_iff_eq.mpr c52
                  have c52b1 : (t315 != 0) = false := bne_eq_false_iff_eq.mpr c52
                  clear c52
                  by_cases c53 : t288 = x8_1
                  · rw [if_pos c53] at H
                    have c53b0 : (t288 == x8_1) = true := beq_iff_eq.mpr c53
                    have c53b1 : (t288 != x8_1) = false := bne_eq_false_iff_eq.mpr c53
                    clear c53
                    by_cases c54 : t314 = x9_1
                    · rw [if_pos c54] at H
                      have c54b0 : (t314 == x9_1) = true := beq_iff_eq.mpr c54
                      have c54b1 : (t314 != x9_1) = false := bne_eq_false_iff_eq.mpr c54
                      clear c54
                      replace H := Option.bind_eq_some_iff.mp H
                      obtain ⟨t316, A550, H⟩ := H
                      replace H : (some t316) = some r := H
                      have A55 := Aside0.mk A550
                      clear A550
                      obtain rfl := Option.some.inj H
                      go_wp2_with (first | (go_at_call 15; (with_reducible refine (shapesearchlaw16_awake.calls k1  t316 _ A55.out).mono ?_); rintro e w56 ⟨rfl, hb⟩; have n0_ := Aside0.mk (Kd.S_below (by (with_reducible repeat (first | apply Kd.S_alloc | apply Kd.S_drewN | apply Kd.S_drew)); exact HO_3.out) hb); have n1_ := Aside0.mk (Kd.S_below (by (with_reducible repeat (first | apply Kd.S_alloc | apply Kd.S_drewN | apply Kd.S_drew)); exact HO_4.out) hb); have n2_ := Aside0.mk (Kd.R_below (by (with_reducible repeat (first | apply Kd.R_alloc | apply Kd.R_drewN | apply Kd.R_drew)); exact HL312_0.out) hb); have n3_ := Aside0.mk (Kd.R_below (by (with_reducible repeat (first | apply Kd.R_alloc | apply Kd.R_drewN | apply Kd.R_drew)); exact HL313_0.out) hb); have n4_ := Aside0.mk (Kd.C_below (by repeat (first | (with_reducible exact HR312_0.out) | (with_reducible refine Kd.C_alloc ?_ _) | (with_reducible refine Kd.C_drewN ?_ _) | (with_reducible refine Kd.C_drew ?_) | exact HR312_0.out)) hb); have n5_ := Aside0.mk (Kd.C_below (by repeat (first | (with_reducible exact HR313_0.out) | (with_reducible refine Kd.C_alloc ?_ _) | (with_reducible refine Kd.C_drewN ?_ _) | (with_reducible refine Kd.C_drew ?_) | exact HR313_0.out)) hb); have n6_ := Aside0.mk (below_step (by repeat (first | (with_reducible first | exact HB.out | apply below_alloc | apply pw_below_drewN | apply below_drew1) | exact HB.out)) hb); clear HO_3; clear HO_4; clear HL312_0; clear HL313_0; clear HR312_0; clear HR313_0; clear HB; have HO_3 := n0_; have HO_4 := n1_; have HL312_0 := n2_; have HL313_0 := n3_; have HR312_0 := n4_; have HR313_0 := n5_; have HB := n6_; clear n0_ n1_ n2_ n3_ n4_ n5_ n6_; (try clear hb); (try clear hb2); (try clear hk); (try clear hi)))
                      go_ret
                      exact ⟨by first | rfl | (simp [errW_none, errW_some] <;> rfl) | (simp [*, errW_none, errW_some] <;> rfl), by repeat (first | (with_reducible first | exact HB.out | apply below_alloc | apply pw_below_drewN | apply below_drew1) | exact HB.out)⟩
                    · rw [if_neg c54] at H
                      have c54b0 : (t314 == x9_1) = false := beq_eq_false_iff_ne.mpr c54
                      have c54b1 : (t314 != x9_1) = true := bne_iff_ne.mpr c54
                      exact absurd ((Option.some.inj H).trans HTR_.out) (by decide)
                  · rw [if_neg c53] at H
                    have c53b0 : (t288 == x8_1) = false := beq_eq_false_iff_ne.mpr c53
                    have c53b1 : (t288 != x8_1) = true := bne_iff_ne.mpr c53
                    exact absurd ((Option.some.inj H).trans HTR_.out) (by decide)
                · rw [if_neg c52] at H
                  have c52b0 : (t315 == 0) = false := beq_eq_false_iff_ne.mpr c52
                  have c52b1 : (t315 != 0) = true := bne_iff_ne.mpr c52
                  exact absurd ((Option.some.inj H).trans HTR_.out) (by decide)
              · rw [if_neg c51] at H
                have c51b0 : (t289 == 0) = false := beq_eq_false_iff_ne.mpr c51
                have c51b1 : (t289 != 0) = true := bne_iff_ne.mpr c51
                (first | rw [c51b0] | (simp only [i64_w, i32_w]; rw [c51b0]) | skip)
                exact absurd ((Option.some.inj H).trans HTR_.out) (by decide)
            · rw [if_neg c46] at H
              have c46b0 : (((rd_L1 t280 0).length : Int) == ((rd_L1 t283 0).length : Int)) = false := beq_eq_false_iff_ne.mpr c46
              have c46b1 : (((rd_L1 t280 0).length : Int) != ((rd_L1 t283 0).length : Int)) = true := bne_iff_ne.mpr c46
              have c46b2 : ((rd_L1 t280 0).length == (rd_L1 t283 0).length) = false := by first | simpa using c46 | (simp at c46 ⊢; omega)
              have HC57 := Aside0.mk H
              clear H
              try go_wp2
              have n0_ := Aside0.mk (Kd.S_drew HO_3.out)
              have n1_ := Aside0.mk (Kd.S_drew HO_4.out)
              have n2_ := Aside0.mk (below_drew1 HB.out)
              clear HO_3
              clear HO_4
              clear HB
              have HO_3 := n0_
              have HO_4 := n1_
              have HB := n2_
              clear n0_ n1_ n2_
              have p312 : 0 ≤ (0 : Int) := (by omega)
              have q312 : 0 < (t280.length : Int) := of_decide_eq_true (by first | (with_reducible assumption) | assumption)
              obtain ⟨ad312, A312_0, c312_0, e312, hx312_0, hl312_0, hi312_0⟩ := at_L1 (Kd.S_reads' HO_3.out).2.2 0 p312 q312
              cases e312
              obtain ⟨ce312, hce312, hMe312, hcc312⟩ := Kd.S_get HO_3.out [] 0 p312 (by first | exact q312 | exact of_decide_eq_true (by first | (with_reducible assumption) | assumption) | (have e_ := (Kd.S_reads' HO_3.out).1; omega))
              obtain ⟨ve312_0, rfl, ge312_0⟩ := hMe312
              have hv312_0 := hcc312 0 _ rfl
              rw [Nat.add_zero, show ((Kd.slice 3 (Kd.int .i64))).sz = 1 from rfl, Nat.mul_one] at hv312_0
              replace hv312_0 := Option.some.inj (hv312_0.symm.trans hx312_0)
              rw [hv312_0] at ge312_0
              have HL312_0 := Aside0.mk (show Kd.R (Kd.int .i64) 3 _ _ _ _ (rd_L1 t280 0) from ge312_0)
              clear hv312_0 ge312_0
              clear hcc312 hce312
              have qi312 : (0 < t280.length) = True := eq_true (by omega)
              (try rw [show ((0 : Int)).toNat = 0 from rfl] at hx312_0)
              (try rw [Addr.add_zero'] at hx312_0)
              have HR312_0 := Aside0.mk hi312_0
              have HC312_0 := Aside0.mk hl312_0
              clear hi312_0 hl312_0
              replace p312 := eq_true p312
              replace q312 := eq_true q312
              have p313 : 0 ≤ (0 : Int) := (by omega)
              have q313 : 0 < (t283.length : Int) := of_decide_eq_true (by first | (with_reducible assumption) | assumption)
              obtain ⟨ad313, A313_0, c313_0, e313, hx313_0, hl313_0, hi313_0⟩ := at_L1 (Kd.S_reads' HO_4.out).2.2 0 p313 q313
              cases e313
              obtain ⟨ce313, hce313, hMe313, hcc313⟩ := Kd.S_get HO_4.out [] 0 p313 (by first | exact q313 | exact of_decide_eq_true (by first | (with_reducible assumption) | assumption) | (have e_ := (Kd.S_reads' HO_4.out).1; omega))
              obtain ⟨ve313_0, rfl, ge313_0⟩ := hMe313
              have hv313_0 := hcc313 0 _ rfl
              rw [Nat.add_zero, show ((Kd.slice 3 (Kd.int .i64))).sz = 1 from rfl, Nat.mul_one] at hv313_0
              replace hv313_0 := Option.some.inj (hv313_0.symm.trans hx313_0)
              rw [hv313_0] at ge313_0
              have HL313_0 := Aside0.mk (show Kd.R (Kd.int .i64) 3 _ _ _ _ (rd_L1 t283 0) from ge313_0)
              clear hv313_0 ge313_0
              clear hcc313 hce313
              have qi313 : (0 < t283.length) = True := eq_true (by omega)
              (try rw [show ((0 : Int)).toNat = 0 from rfl] at hx313_0)
              (try rw [Addr.add_zero'] at hx313_0)
              have HR313_0 := Aside0.mk hi313_0
              have HC313_0 := Aside0.mk hl313_0
              clear hi313_0 hl313_0
              replace p313 := eq_true p313
              replace q313 := eq_true q313
              refine start_ (n := 9) (S := fun w' => w'.cell? ad312 = some (.slice A312_0 (rd_L1 t280 0).length c312_0) ∧ w'.cell? ad313 = some (.slice A313_0 (rd_L1 t283 0).length c313_0)) (ds := []) #[false, false, false, false, false, false, false, false, false] (by kernel_rfl) rfl rfl ⟨hx312_0, hx313_0⟩ (fun hHeld => ?_); refine with_tabW shapesearchlaw16_ChannelsSums.tab17 shapesearchlaw16_ChannelsSums.bits17 (fun HT_ HW_ => ?_)
              generalize wr.drew = w58 at HO_3 HO_4 HB HL312_0 HL313_0 HR312_0 HR313_0 hx312_0 hx313_0 hHeld ⊢
              refine pure_ (i := 0) (N := some 83) (v := ?_) (a' := ?_) #[true, false, false, false, false, false, false, false, false] rfl rfl (any_of HT_.out (by kernel_rfl)) (fun _ _ _ h => h) (Or.inl ⟨by rfl, ?_⟩) ?_ ?_
              rotate_left
              · intro w'
                go_simp
                with_reducible rfl
              rotate_left
              · simp only [Act.put, List.setIfInBounds_toArray, List.set_cons_zero, List.set_cons_succ, i64_w, i32_w]
                rfl
              refine pure_ (i := 1) (N := some 84) (v := ?_) (a' := ?_) #[true, true, false, false, false, false, false, false, false] rfl rfl (any_of HT_.out (by kernel_rfl)) (fun _ _ _ h => h) (Or.inl ⟨by rfl, ?_⟩) ?_ ?_
              rotate_left
              · intro w'
                go_simp
                with_reducible rfl
              rotate_left
              · simp only [Act.put, List.setIfInBounds_toArray, List.set_cons_zero, List.set_cons_succ, i64_w, i32_w]
                rfl
              refine pure_ (i := 4) (N := some 87) (v := ?_) (a' := ?_) #[true, true, false, false, true, false, false, false, false] rfl rfl (any_of HT_.out (by kernel_rfl)) (fun _ _ _ h => h) (Or.inl ⟨by rfl, ?_⟩) ?_ ?_
              rotate_left
              · intro w'
                go_simp
                with_reducible rfl
              rotate_left
              · simp only [Act.put, List.setIfInBounds_toArray, List.set_cons_zero, List.set_cons_succ, i64_w, i32_w]
                rfl
              refine pure_ (i := 5) (N := some 88) (v := ?_) (a' := ?_) #[true, true, false, false, true, true, false, false, false] rfl rfl (any_of HT_.out (by kernel_rfl)) (fun _ _ _ h => h) (Or.inl ⟨by rfl, ?_⟩) ?_ ?_
              rotate_left
              · intro w'
                go_simp
                with_reducible rfl
              rotate_left
              · simp only [Act.put, List.setIfInBounds_toArray, List.set_cons_zero, List.set_cons_succ, i64_w, i32_w]
                rfl
              refine take_ (i := 2) (N := some 85) (v := ?_) (a' := ?_) #[true, true, true, false, true, true, false, false, false] rfl rfl (take_ofW HT_.out HW_.out (by kernel_rfl)) (fun _ _ _ h => h) (Or.inl ⟨by rfl, ?_⟩) hHeld ?_ ?_
              rotate_left
              · rintro w' ⟨s0, s1⟩
                go_simp
                with_reducible rfl
              rotate_left
              · simp only [Act.put, List.setIfInBounds_toArray, List.set_cons_zero, List.set_cons_succ, i64_w, i32_w]
                rfl
              refine pure_ (i := 3) (N := some 86) (v := ?_) (a' := ?_) #[true, true, true, true, true, true, false, false, false] rfl rfl (any_of HT_.out (by kernel_rfl)) (fun _ _ _ h => h) (Or.inl ⟨by rfl, ?_⟩) ?_ ?_
              rotate_left
              · intro w'
                go_simp
                with_reducible rfl
              rotate_left
              · simp only [Act.put, List.setIfInBounds_toArray, List.set_cons_zero, List.set_cons_succ, i64_w, i32_w]
                rfl
              refine take_ (i := 6) (N := some 89) (v := ?_) (a' := ?_) #[true, true, true, true, true, true, true, false, false] rfl rfl (take_ofW HT_.out HW_.out (by kernel_rfl)) (fun _ _ _ h => h) (Or.inl ⟨by rfl, ?_⟩) hHeld ?_ ?_
              rotate_left
              · rintro w' ⟨s0, s1⟩
                go_simp
                with_reducible rfl
              rotate_left
              · simp only [Act.put, List.setIfInBounds_toArray, List.set_cons_zero, List.set_cons_succ, i64_w, i32_w]
                rfl
              refine pure_ (i := 7) (N := some 90) (v := ?_) (a' := ?_) #[true, true, true, true, true, true, true, true, false] rfl rfl (any_of HT_.out (by kernel_rfl)) (fun _ _ _ h => h) (Or.inl ⟨by rfl, ?_⟩) ?_ ?_
              rotate_left
              · intro w'
                go_simp
                with_reducible rfl
              rotate_left
              · simp only [Act.put, List.setIfInBounds_toArray, List.set_cons_zero, List.set_cons_succ, i64_w, i32_w]
                rfl
              refine pure_ (i := 8) (N := some 91) (v := ?_) (a' := ?_) #[true, true, true, true, true, true, true, true, true] rfl rfl (any_of HT_.out (by kernel_rfl)) (fun _ _ _ h => h) (Or.inl ⟨by rfl, ?_⟩) ?_ ?_
              rotate_left
              · intro w'
                go_simp
                with_reducible rfl
              rotate_left
              · simp only [Act.put, List.setIfInBounds_toArray, List.set_cons_zero, List.set_cons_succ, i64_w, i32_w]
                rfl
              refine done_ (done_of HT_.out (by kernel_rfl)) ?_
              go_upto_region 20 with (fail)
              have H := HC57.out
              clear HC57
              by_cases c59 : t289 = 0
              · rw [if_pos c59] at H
                have c59b0 : (t289 == 0) = true := beq_iff_eq.mpr c59
                have c59b1 : (t289 != 0) = false := bne_eq_false_iff_eq.mpr c59
                clear c59
                (first | rw [c59b0] | (simp only [i64_w, i32_w]; rw [c59b0]) | skip)
                by_cases c60 : t288 = x8_1
                · rw [if_pos c60] at H
                  have c60b0 : (t288 == x8_1) = true := beq_iff_eq.mpr c60
                  have c60b1 : (t288 != x8_1) = false := bne_eq_false_iff_eq.mpr c60
                  clear c60
                  replace H := Option.bind_eq_some_iff.mp H
                  obtain ⟨t317, A610, H⟩ := H
                  replace H : (some t317) = some r := H
                  have A61 := Aside0.mk A610
                  clear A610
                  obtain rfl := Option.some.inj H
                  go_wp2_with (first | (go_at_call 15; (with_reducible refine (shapesearchlaw16_awake.calls k1  t317 _ A61.out).mono ?_); rintro e w62 ⟨rfl, hb⟩; have n0_ := Aside0.mk (Kd.S_below (by (with_reducible repeat (first | apply Kd.S_alloc | apply Kd.S_drewN | apply Kd.S_drew)); exact HO_3.out) hb); have n1_ := Aside0.mk (Kd.S_below (by (with_reducible repeat (first | apply Kd.S_alloc | apply Kd.S_drewN | apply Kd.S_drew)); exact HO_4.out) hb); have n2_ := Aside0.mk (Kd.R_below (by (with_reducible repeat (first | apply Kd.R_alloc | apply Kd.R_drewN | apply Kd.R_drew)); exact HL312_0.out) hb); have n3_ := Aside0.mk (Kd.R_below (by (with_reducible repeat (first | apply Kd.R_alloc | apply Kd.R_drewN | apply Kd.R_drew)); exact HL313_0.out) hb); have n4_ := Aside0.mk (Kd.C_below (by repeat (first | (with_reducible exact HR312_0.out) | (with_reducible refine Kd.C_alloc ?_ _) | (with_reducible refine Kd.C_drewN ?_ _) | (with_reducible refine Kd.C_drew ?_) | exact HR312_0.out)) hb); have n5_ := Aside0.mk (Kd.C_below (by repeat (first | (with_reducible exact HR313_0.out) | (with_reducible refine Kd.C_alloc ?_ _) | (with_reducible refine Kd.C_drewN ?_ _) | (with_reducible refine Kd.C_drew ?_) | exact HR313_0.out)) hb); have n6_ := Aside0.mk (below_step (by repeat (first | (with_reducible first | exact HB.out | apply below_alloc | apply pw_below_drewN | apply below_drew1) | exact HB.out)) hb); clear HO_3; clear HO_4; clear HL312_0; clear HL313_0; clear HR312_0; clear HR313_0; clear HB; have HO_3 := n0_; have HO_4 := n1_; have HL312_0 := n2_; have HL313_0 := n3_; have HR312_0 := n4_; have HR313_0 := n5_; have HB := n6_; clear n0_ n1_ n2_ n3_ n4_ n5_ n6_; (try clear hb); (try clear hb2); (try clear hk); (try clear hi)))
                  go_ret
                  exact ⟨by first | rfl | (simp [errW_none, errW_some] <;> rfl) | (simp [*, errW_none, errW_some] <;> rfl), by repeat (first | (with_reducible first | exact HB.out | apply below_alloc | apply pw_below_drewN | apply below_drew1) | exact HB.out)⟩
                · rw [if_neg c60] at H
                  have c60b0 : (t288 == x8_1) = false := beq_eq_false_iff_ne.mpr c60
                  have c60b1 : (t288 != x8_1) = true := bne_iff_ne.mpr c60
                  exact absurd ((Option.some.inj H).trans HTR_.out) (by decide)
              · rw [if_neg c59] at H
                have c59b0 : (t289 == 0) = false := beq_eq_false_iff_ne.mpr c59
                have c59b1 : (t289 != 0) = true := bne_iff_ne.mpr c59
                (first | rw [c59b0] | (simp only [i64_w, i32_w]; rw [c59b0]) | skip)
                exact absurd ((Option.some.inj H).trans HTR_.out) (by decide)
          · rw [if_neg c45] at H
            exact absurd H (by simp)
        · rw [if_neg c44] at H
          exact absurd H (by simp)

/-- THE ONE PURE STATEMENT of shapesearchlaw16_ChannelsSums: yours. -/
def shapesearchlaw16_ChannelsSums.Pure : Prop := ∀ (l0 : List Int), l0.length ≤ maxLen → l0.length * 8 ≤ 140737488351232 → (∀ x ∈ l0, (Lit.int .i64 x).wf = true) → ∃ k, shapesearchlaw16_ChannelsSums.f k l0 = some true
theorem shapesearchlaw16_ChannelsSums.walk (P : shapesearchlaw16_ChannelsSums.Pure) (a0 : Option Addr) (len0 cap0 : Nat) (z0 : List Int) (w : World) (w0 : (a0 = none ∧ len0 = 0 ∧ cap0 = 0 ∧ z0 = []) ∨ ∃ x, a0 = some x ∧ len0 ≤ cap0 ∧ cap0 ≤ maxLen ∧ z0.length = cap0 ∧ (∀ i, i < z0.length → w.cell? (x.add i) = some (.int .i64 (z0.getD i 0))) ∧ ∀ n ∈ z0, (Lit.int .i64 n).wf = true) (y0 : len0 * 8 ≤ 140737488351232) :
    Calls Try.prog 4 #[.slice a0 len0 cap0] w fun e w' => e = .returned (.bool true) ∧ Below w.heap.size w w' := by
  obtain ⟨l0, rfl, hr0, hm0, hw0, hc0⟩ := ReadsInt.ofRowC w0
  obtain ⟨k, h⟩ := P l0 hm0 y0 hw0
  refine (shapesearchlaw16_ChannelsSums.calls k _ _ l0 true w (Kd.C_of_reads (d := (0 : Int)) (h1 := fun _ => rfl) hr0) hc0 h rfl).mono ?_
  rintro e w' ⟨rfl, hd⟩
  exact ⟨rfl, hd⟩

end Go.Proofs.Ytodipcfbgnljeaa.PChannelsSums
