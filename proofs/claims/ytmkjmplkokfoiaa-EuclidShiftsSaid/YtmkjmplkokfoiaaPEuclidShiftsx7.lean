/- This file proves, function by function, what the Go functions that one law uses compute; most of it was printed by a program (wip/tools of this session, over the kit's print). -/
import Derived.Test.YtmkjmplkokfoiaaPEuclidShiftsx0
import Derived.Test.YtmkjmplkokfoiaaPEuclidShiftsx1
import Derived.Test.YtmkjmplkokfoiaaPEuclidShiftsx2
import Derived.Test.YtmkjmplkokfoiaaPEuclidShiftsx3
import Derived.Test.YtmkjmplkokfoiaaPEuclidShiftsx4
import Derived.Test.YtmkjmplkokfoiaaPEuclidShiftsx5
import Derived.Test.YtmkjmplkokfoiaaPEuclidShiftsx6
namespace Go.Proofs.Ytmkjmplkokfoiaa.PEuclidShifts
open Go.RowKit Go.Proofs.YtmkjmplkokfoiaaW.PrintWords Go.Proofs.YtmkjmplkokfoiaaW.PrintLast Go.Proofs.YtmkjmplkokfoiaaW.PrintMore
attribute [local go_sem] max2_int min2_int max_two min_two max_three min_three max_four min_four   -- for this text's walks alone
set_option linter.unusedVariables false
set_option linter.unusedSimpArgs false

attribute [local go_sem high] eqA37
/-! ### shapesearchlaw12_EuclidShifts: function 4 -/
mutual
def shapesearchlaw12_EuclidShifts.l0 : Nat → Int → List Int → List Int → List Int → Int → Int → Int → Option (Bool)
  | 0, _, _, _, _, _, _, _ => none
  | k + 1, x1, x6, x7, x8, x9, x28, x29 => if x29 < x28 then (if 0 ≤ x29 then (if x29 < (x6.length : Int) then (if x29 < (x7.length : Int) then ((some (x6.set (x29 : Int).toNat (wrap64 (Int.tdiv (wrap64 ((rd x6 x29) * 4)) 5)) : List Int)).bind fun y286 => ((some (x7.set (x29 : Int).toNat (wrap64 (Int.tdiv (wrap64 ((rd x7 x29) * 4)) 5)) : List Int)).bind fun y287 => (if x8.length < 17592186044416 then (shapesearchlaw12_EuclidShifts.l0 k x1 y286 y287 (x8 ++ [wrap64 ((wrap64 (Int.tdiv (wrap64 ((rd x7 x29) * 4)) 5)) + (wrap64 (x1)))]) (wrap64 (x9 + (wrap64 ((rd y286 x29) - (rd y287 x29))))) x28 (wrap64 (x29 + 1))) else (none)))) else (none)) else (none)) else (none)) else ((euclid_Shifted.f k x6 x7).bind fun bt294 => ((euclid_Shifted.f k x6 x8).bind fun bt298 => ((euclid_Distance.f k x6 x8).bind fun bt302 => (shapesearchlaw12_EuclidShifts.l1 k x6 x7 x9 bt294.2.2 bt298.2.2 bt302.1 bt302.2 (x6.length : Int) 0 (x6.length : Int) 0 bt294.1 bt294.2.1 bt298.1 bt298.2.1))))
def shapesearchlaw12_EuclidShifts.l1 : Nat → List Int → List Int → Int → Int → Int → Int → Int → Int → Int → Int → Int → Int → Int → Int → Int → Option (Bool)
  | 0, _, _, _, _, _, _, _, _, _, _, _, _, _, _, _ => none
  | k + 1, x6, x7, x9, x12, x14, x15, x16, x17, x18, x93, x94, x298000, x298001, x302000, x302001 => if x94 < x93 then (if 0 ≤ x94 then (if x94 < (x6.length : Int) then (if x94 < (x7.length : Int) then (shapesearchlaw12_EuclidShifts.l1 k x6 x7 x9 x12 x14 x15 x16 x17 (wrap64 (x18 + (wrap64 ((wrap64 ((wrap64 ((wrap64 (x17 * (rd x6 x94))) - (wrap64 (x17 * (rd x7 x94))))) - x9)) * (wrap64 ((wrap64 ((wrap64 (x17 * (rd x6 x94))) - (wrap64 (x17 * (rd x7 x94))))) - x9)))))) x93 (wrap64 (x94 + 1)) x298000 x298001 x302000 x302001) else (none)) else (none)) else (none)) else (if x12 = 0 then (if x14 = 0 then (if x16 = 0 then (if (x298000 == x302000 && (x298001 == x302001)) = true then (if (wrap64 ((wrap64 (x298000 * x17)) * x17)) = (wrap64 (x18 * x298001)) then ((shapesearchref01_Cmp.f k x298000 x298001 x15 1).bind fun t308 => (if t308 ≤ 0 then ((shapesearchlaw12_awake.f k).bind fun t309 => (some t309)) else (some false))) else (some false)) else (some false)) else (some false)) else (some false)) else (some false))
end
def shapesearchlaw12_EuclidShifts.f (k : Nat) (l0 : List Int) (a1 : Int) : Option (Bool) := (shapesearchkeep_New.f l0).bind fun bt274 => ((shapesearchkeep_Src_Pair.f k bt274.1 bt274.2).bind fun bt277 => (shapesearchlaw12_EuclidShifts.l0 k a1 bt277.1 bt277.2.1 ([] : List Int) 0 (bt277.2.1.length : Int) 0))
theorem shapesearchlaw12_EuclidShifts.mono_l : ∀ k, (∀ y0 y1 y2 y3 y4 y5 y6, LeO (shapesearchlaw12_EuclidShifts.l0 k y0 y1 y2 y3 y4 y5 y6) (shapesearchlaw12_EuclidShifts.l0 (k + 1) y0 y1 y2 y3 y4 y5 y6)) ∧ (∀ y0 y1 y2 y3 y4 y5 y6 y7 y8 y9 y10 y11 y12 y13 y14, LeO (shapesearchlaw12_EuclidShifts.l1 k y0 y1 y2 y3 y4 y5 y6 y7 y8 y9 y10 y11 y12 y13 y14) (shapesearchlaw12_EuclidShifts.l1 (k + 1) y0 y1 y2 y3 y4 y5 y6 y7 y8 y9 y10 y11 y12 y13 y14))
  | 0 => ⟨fun _ _ _ _ _ _ _ r h => by simp [shapesearchlaw12_EuclidShifts.l0] at h, fun _ _ _ _ _ _ _ _ _ _ _ _ _ _ _ r h => by simp [shapesearchlaw12_EuclidShifts.l1] at h⟩
  | k + 1 => by
    obtain ⟨ih0, ih1⟩ := shapesearchlaw12_EuclidShifts.mono_l k
    refine ⟨?_, ?_⟩
    · intro y0 y1 y2 y3 y4 y5 y6
      unfold shapesearchlaw12_EuclidShifts.l0
      repeat' first
      | (with_reducible exact ih0 _ _ _ _ _ _ _)
      | (with_reducible exact ih1 _ _ _ _ _ _ _ _ _ _ _ _ _ _ _)
      | (with_reducible exact euclid_Distance.mono _ _ _)
      | (with_reducible exact euclid_Shifted.mono _ _ _)
      | (with_reducible exact shapesearchkeep_Src_Pair.mono _ _ _)
      | (with_reducible exact shapesearchlaw12_awake.mono _)
      | (with_reducible exact shapesearchref01_Cmp.mono _ _ _ _ _)
      | (with_reducible exact LeO.refl _)
      | (with_reducible exact LeO.none _)
      | (with_reducible refine LeO.ite ?_ ?_)
      | (with_reducible refine LeO.bind ?_ (fun _ => ?_))
      | exact ih0 _ _ _ _ _ _ _
      | exact ih1 _ _ _ _ _ _ _ _ _ _ _ _ _ _ _
      | exact euclid_Distance.mono _ _ _
      | exact euclid_Shifted.mono _ _ _
      | exact shapesearchkeep_Src_Pair.mono _ _ _
      | exact shapesearchlaw12_awake.mono _
      | exact shapesearchref01_Cmp.mono _ _ _ _ _
      | exact LeO.none _
      | refine LeO.ite ?_ ?_
      | refine LeO.bind ?_ (fun _ => ?_)
    · intro y0 y1 y2 y3 y4 y5 y6 y7 y8 y9 y10 y11 y12 y13 y14
      unfold shapesearchlaw12_EuclidShifts.l1
      repeat' first
      | (with_reducible exact ih0 _ _ _ _ _ _ _)
      | (with_reducible exact ih1 _ _ _ _ _ _ _ _ _ _ _ _ _ _ _)
      | (with_reducible exact euclid_Distance.mono _ _ _)
      | (with_reducible exact euclid_Shifted.mono _ _ _)
      | (with_reducible exact shapesearchkeep_Src_Pair.mono _ _ _)
      | (with_reducible exact shapesearchlaw12_awake.mono _)
      | (with_reducible exact shapesearchref01_Cmp.mono _ _ _ _ _)
      | (with_reducible exact LeO.refl _)
      | (with_reducible exact LeO.none _)
      | (with_reducible refine LeO.ite ?_ ?_)
      | (with_reducible refine LeO.bind ?_ (fun _ => ?_))
      | exact ih0 _ _ _ _ _ _ _
      | exact ih1 _ _ _ _ _ _ _ _ _ _ _ _ _ _ _
      | exact euclid_Distance.mono _ _ _
      | exact euclid_Shifted.mono _ _ _
      | exact shapesearchkeep_Src_Pair.mono _ _ _
      | exact shapesearchlaw12_awake.mono _
      | exact shapesearchref01_Cmp.mono _ _ _ _ _
      | exact LeO.none _
      | refine LeO.ite ?_ ?_
      | refine LeO.bind ?_ (fun _ => ?_)
theorem shapesearchlaw12_EuclidShifts.mono : ∀ a0 a1 k, LeO (shapesearchlaw12_EuclidShifts.f k a0 a1) (shapesearchlaw12_EuclidShifts.f (k + 1) a0 a1) := by
  intro a0 a1 k
  obtain ⟨ih0, ih1⟩ := shapesearchlaw12_EuclidShifts.mono_l k
  unfold shapesearchlaw12_EuclidShifts.f
  repeat' first
      | (with_reducible exact ih0 _ _ _ _ _ _ _)
      | (with_reducible exact ih1 _ _ _ _ _ _ _ _ _ _ _ _ _ _ _)
      | (with_reducible exact euclid_Distance.mono _ _ _)
      | (with_reducible exact euclid_Shifted.mono _ _ _)
      | (with_reducible exact shapesearchkeep_Src_Pair.mono _ _ _)
      | (with_reducible exact shapesearchlaw12_awake.mono _)
      | (with_reducible exact shapesearchref01_Cmp.mono _ _ _ _ _)
      | (with_reducible exact LeO.refl _)
      | (with_reducible exact LeO.none _)
      | (with_reducible refine LeO.ite ?_ ?_)
      | (with_reducible refine LeO.bind ?_ (fun _ => ?_))
      | exact ih0 _ _ _ _ _ _ _
      | exact ih1 _ _ _ _ _ _ _ _ _ _ _ _ _ _ _
      | exact euclid_Distance.mono _ _ _
      | exact euclid_Shifted.mono _ _ _
      | exact shapesearchkeep_Src_Pair.mono _ _ _
      | exact shapesearchlaw12_awake.mono _
      | exact shapesearchref01_Cmp.mono _ _ _ _ _
      | exact LeO.none _
      | refine LeO.ite ?_ ?_
      | refine LeO.bind ?_ (fun _ => ?_)
def shapesearchlaw12_EuclidShifts.T8 : Bool × List (List Nat × List Nat) := (true, [([], []), ([], []), ([], []), ([], []), ([], []), ([], []), ([4, 5], [4, 5]), ([6], [6]), ([7], [7]), ([8], [8]), ([], []), ([], []), ([10, 11], [10, 11]), ([12], [12]), ([13], [13]), ([14], [14]), ([0, 1, 0, 1, 4, 5, 6, 7, 8, 9, 13], [0, 1]), ([16, 9, 0, 1, 4, 5, 6, 7, 8, 9, 13], [9, 16]), ([2, 3, 0, 1, 2, 3, 4, 5, 6, 7, 8, 9, 10, 11, 12, 13, 14, 15, 16, 17], [2, 3]), ([18, 15, 17, 0, 1, 2, 3, 4, 5, 6, 7, 8, 9, 10, 11, 12, 13, 14, 15, 16, 17], [15, 18])])
def shapesearchlaw12_EuclidShifts.B8 : List Nat := [0, 0, 0, 0, 0, 0, 48, 112, 240, 496, 0, 0, 3072, 7168, 15360, 31744, 16371, 81907, 262143, 524287]
theorem shapesearchlaw12_EuclidShifts.tab8 : rtab .any (opsOf Try.f4 8) = shapesearchlaw12_EuclidShifts.T8 := by kernel_rfl
theorem shapesearchlaw12_EuclidShifts.bits8 : waitsOk shapesearchlaw12_EuclidShifts.T8.2 shapesearchlaw12_EuclidShifts.B8 = true := by kernel_rfl
def shapesearchlaw12_EuclidShifts.T10 : Bool × List (List Nat × List Nat) := (true, [([], []), ([], []), ([], []), ([1, 2], [1, 2]), ([3], [3]), ([], []), ([], []), ([5, 6], [5, 6]), ([7], [7]), ([4, 8], [4, 8]), ([0, 9], [0, 9]), ([10, 0, 1, 2, 3, 4, 5, 6, 7, 8, 9, 10], [0, 10])])
def shapesearchlaw12_EuclidShifts.B10 : List Nat := [0, 0, 0, 6, 14, 0, 0, 96, 224, 510, 1023, 2047]
theorem shapesearchlaw12_EuclidShifts.tab10 : rtab .any (opsOf Try.f4 10) = shapesearchlaw12_EuclidShifts.T10 := by kernel_rfl
theorem shapesearchlaw12_EuclidShifts.bits10 : waitsOk shapesearchlaw12_EuclidShifts.T10.2 shapesearchlaw12_EuclidShifts.B10 = true := by kernel_rfl
def shapesearchlaw12_EuclidShifts.T20 : Bool × List (List Nat × List Nat) := (true, [([], []), ([], []), ([], []), ([], []), ([2, 3], [2, 3]), ([4], [4]), ([1, 5], [1, 5]), ([], []), ([], []), ([], []), ([8, 9], [8, 9]), ([10], [10]), ([7, 11], [7, 11]), ([6, 12], [6, 12]), ([], []), ([13, 14], [13, 14]), ([], []), ([], []), ([], []), ([17, 18], [17, 18]), ([19], [19]), ([16, 20], [16, 20]), ([], []), ([], []), ([], []), ([23, 24], [23, 24]), ([25], [25]), ([22, 26], [22, 26]), ([21, 27], [21, 27]), ([], []), ([28, 29], [28, 29]), ([15, 30], [15, 30]), ([0, 31], [0, 31]), ([32, 0, 1, 2, 3, 4, 5, 6, 7, 8, 9, 10, 11, 12, 13, 14, 15, 16, 17, 18, 19, 20, 21, 22, 23, 24, 25, 26, 27, 28, 29, 30, 31, 32], [0, 32])])
def shapesearchlaw12_EuclidShifts.B20 : List Nat := [0, 0, 0, 0, 12, 28, 62, 0, 0, 0, 768, 1792, 3968, 8190, 0, 32766, 0, 0, 0, 393216, 917504, 2031616, 0, 0, 0, 25165824, 58720256, 130023424, 268369920, 0, 1073676288, 2147483646, 4294967295, 8589934591]
theorem shapesearchlaw12_EuclidShifts.tab20 : rtab .any (opsOf Try.f4 20) = shapesearchlaw12_EuclidShifts.T20 := by kernel_rfl
theorem shapesearchlaw12_EuclidShifts.bits20 : waitsOk shapesearchlaw12_EuclidShifts.T20.2 shapesearchlaw12_EuclidShifts.B20 = true := by kernel_rfl
set_option maxHeartbeats 8000000 in
set_option maxRecDepth 100000 in
theorem shapesearchlaw12_EuclidShifts.calls (k : Nat) (A0 : Option Addr) (c0 : Nat) (l0 : List Int) (a1 : Int) (r : Bool) (w : World) (hr0 : Kd.C (Kd.int .i64) w A0 l0.length l0) (hc0 : l0.length ≤ c0) (h : shapesearchlaw12_EuclidShifts.f k l0 a1 = some r) :
    Calls Try.prog 4 #[.slice A0 l0.length c0, .int .i8 a1] w fun e w' => e = .returned (.bool r) ∧ Below w.heap.size w w' := by
  have hu37 := Try.underlying37
  have HR0 := Aside0.mk hr0
  have HC0 := Aside0.mk hc0
  clear hr0 hc0
  have HB := Aside0.mk (Below.refl w.heap.size w)
  have H : ((shapesearchkeep_New.f l0).bind fun bt274 => ((shapesearchkeep_Src_Pair.f k bt274.1 bt274.2).bind fun bt277 => (shapesearchlaw12_EuclidShifts.l0 k a1 bt277.1 bt277.2.1 ([] : List Int) 0 (bt277.2.1.length : Int) 0))) = some r := h
  clear h
  replace H := Option.bind_eq_some_iff.mp H
  obtain ⟨⟨t274, t275⟩, A30, H⟩ := H
  replace H : ((shapesearchkeep_Src_Pair.f k t274 t275).bind fun bt277 => (shapesearchlaw12_EuclidShifts.l0 k a1 bt277.1 bt277.2.1 ([] : List Int) 0 (bt277.2.1.length : Int) 0)) = some r := H
  have A3 := Aside0.mk A30
  clear A30
  replace H := Option.bind_eq_some_iff.mp H
  obtain ⟨⟨t277, t280, t283⟩, A40, H⟩ := H
  replace H : (shapesearchlaw12_EuclidShifts.l0 k a1 t277 t280 ([] : List Int) 0 (t280.length : Int) 0) = some r := H
  have A4 := Aside0.mk A40
  clear A40
  have H' := Aside0.mk H
  clear H
  go_enter Try.func4, Try.ntmps4
  go_wp2_with (first | ((with_reducible refine gate_callee (f := 9) rfl ?_); refine goesL_ (some 21) rfl rfl Try.func9 (by kernel_rfl) rfl #[.slice A0 l0.length c0] rfl (by (try simp only [List.map_toArray, List.map_cons, List.map_nil]); first | done | rfl | (simp only [List.length_drop, List.length_take]; rfl)) ?_; (with_reducible refine (shapesearchkeep_New.calls _ _ l0 t274 t275 w _ ?side1 ?side2 ?side3 A3.out).mono ?_); (case side1 => repeat (first | (with_reducible first | exact HB.out | apply below_alloc | apply pw_below_drewN | apply below_drew1) | exact HB.out)); (case side2 => exact HR0.out); (case side3 => exact HC0.out); rintro e w5 ⟨g276, rfl, hi, hb, hb2⟩; refine ⟨_, rfl, ?_⟩; have n0_ := Aside0.mk (hb); have n1_ := Aside0.mk (hi); clear HB; have HB := n0_; have HI276 := n1_; clear n0_ n1_; (try clear hb); (try clear hb2); (try clear hk); (try clear hi)) | ((with_reducible refine gate_callee (f := 10) rfl ?_); refine goesL_ (some 24) rfl rfl Try.func10 (by kernel_rfl) rfl #[.pointer (some ⟨g276, 0, none⟩)] rfl (by (try simp only [List.map_toArray, List.map_cons, List.map_nil]); first | done | rfl | (simp only [List.length_drop, List.length_take]; rfl)) ?_; (with_reducible refine (shapesearchkeep_Src_Pair.calls k g276 t274 t275 t277 t280 t283 w _ ?side1 ?side2 A4.out).mono ?_); (case side1 => repeat (first | (with_reducible first | exact HI276.out | apply IsS56.alloc | apply IsS56.drewN | apply IsS56.drew | apply IsS56.set_1) | exact HI276.out)); (case side2 => repeat (first | (with_reducible first | exact HB.out | apply below_alloc | apply pw_below_drewN | apply below_drew1 | refine below_set ?_ (IsS56.ge HI276.out)) | exact HB.out)); rintro e w6 ⟨v278, v281, rfl, ho0, ho1, hi, hb, hk⟩; refine ⟨_, rfl, ?_⟩; have n0_ := Aside0.mk (Kd.R_lower ho0 (below_size (by repeat (first | (with_reducible first | exact HB.out | apply below_alloc | apply pw_below_drewN | apply below_drew1 | refine below_set ?_ (IsS56.ge HI276.out)) | exact HB.out)))); have n1_ := Aside0.mk (Kd.R_lower ho1 (below_size (by repeat (first | (with_reducible first | exact HB.out | apply below_alloc | apply pw_below_drewN | apply below_drew1 | refine below_set ?_ (IsS56.ge HI276.out)) | exact HB.out)))); have n2_ := Aside0.mk (hb); have n3_ := Aside0.mk (hi); clear HB; clear HI276; have HO279 := n0_; have HO282 := n1_; have HB := n2_; have HI276 := n3_; clear n0_ n1_ n2_ n3_; (try clear hb); (try clear hb2); (try clear hk); (try clear hi); (try clear ho0); (try clear ho1); obtain ⟨Ao7, co7, eo7⟩ := Kd.R_slice HO282.out; subst eo7))
  go_loopg [8, 9, 29] k (fun kq v8 v9 v29 w' => ∃ (x6_1 : List Int) (x7_1 : List Int) (x8_1 : List Int) (x9_1 : Int) (x29_1 : Int), v9 = .int .i64 x9_1 ∧ v29 = .int .i64 x29_1 ∧ Aside0 (shapesearchlaw12_EuclidShifts.l0 kq a1 x6_1 x7_1 x8_1 x9_1 (t280.length : Int) x29_1 = some r) ∧ Aside0 (kq ≤ k) ∧ Aside0 (Kd.R (Kd.int .i64) 3 w' w.heap.size (fun k_ => some k_ ≠ ((.slice Ao7 t280.length co7) : Value).ownBlock ∧ some k_ ≠ (v8 : Value).ownBlock) v278 x6_1) ∧ Aside0 (Kd.R (Kd.int .i64) 3 w' w.heap.size (fun k_ => some k_ ≠ (v278 : Value).ownBlock ∧ some k_ ≠ (v8 : Value).ownBlock) (.slice Ao7 t280.length co7) x7_1) ∧ Aside0 (Kd.R (Kd.int .i64) 3 w' w.heap.size (fun k_ => some k_ ≠ (v278 : Value).ownBlock ∧ some k_ ≠ ((.slice Ao7 t280.length co7) : Value).ownBlock) v8 x8_1) ∧ Aside0 (Below w.heap.size w w'))
  case atStart => exact ⟨(t277), (t280), (([] : List Int)), (0), (0), (by first | rfl | (simp; done) | (simp [*]; done)), (by first | rfl | (simp; done) | (simp [*]; done)), H', ⟨Nat.le_refl _⟩, ⟨by (with_reducible repeat (first | apply Kd.R_alloc | apply Kd.R_drewN | apply Kd.R_drew)); exact Kd.R_mono HO279.out (fun _ hk => ⟨hk, (by simp [Value.ownBlock])⟩)⟩, ⟨by (with_reducible repeat (first | apply Kd.R_alloc | apply Kd.R_drewN | apply Kd.R_drew)); exact Kd.R_mono HO282.out (fun _ hk => ⟨hk, (by simp [Value.ownBlock])⟩)⟩, ⟨by first | exact Kd.R_nil _ _ _ _ _ | exact Kd.N_nil _ _ _ _ _ | exact Kd.V_nil _ _ _ _ _ | exact Kd.Q_nil _ _ _ _ _ | exact Kd.S_nil _ _ _ _ _⟩, ⟨by repeat (first | (with_reducible first | exact HB.out | apply below_alloc | apply pw_below_drewN | apply below_drew1 | refine below_set ?_ (IsS56.ge HI276.out)) | exact HB.out)⟩⟩
  case round =>
    clear H'
    try clear c1
    try clear p2
    try clear c4
    obtain ⟨x6_1, x7_1, x8_1, x9_1, x29_1, rfl, rfl, HA, HK1, HO_6, HO_7, HO_8, HB⟩ := hrel
    have hl7_1 := (Kd.R_reads' HO_7.out).1
    rw [hl7_1] at HO_7
    (try simp only [hl7_1])
    (try simp only [hl7_1] at HO_6)
    (try simp only [hl7_1] at HO_8)
    cases gk with
    | zero => exact absurd HA.out (by simp [shapesearchlaw12_EuclidShifts.l0])
    | succ k1 =>
      have H := HA.out
      clear HA
      simp only [shapesearchlaw12_EuclidShifts.l0] at H
      by_cases c8 : x29_1 < (t280.length : Int)
      · rw [if_pos c8] at H
        have c8b0 : decide (x29_1 < (t280.length : Int)) = true := decide_eq_true c8
        (try (have c8b0h := c8b0; simp only [hl7_1] at c8b0h))
        clear c8
        by_cases c9 : 0 ≤ x29_1
        · rw [if_pos c9] at H
          have c9b0 : decide (0 ≤ x29_1) = true := decide_eq_true c9
          clear c9
          by_cases c10 : x29_1 < (x6_1.length : Int)
          · rw [if_pos c10] at H
            have c10b0 : decide (x29_1 < (x6_1.length : Int)) = true := decide_eq_true c10
            (try (have c10b0h := c10b0; simp only [hl7_1] at c10b0h))
            clear c10
            by_cases c11 : x29_1 < (x7_1.length : Int)
            · rw [if_pos c11] at H
              have c11b0 : decide (x29_1 < (x7_1.length : Int)) = true := decide_eq_true c11
              (try (have c11b0h := c11b0; simp only [hl7_1] at c11b0h))
              clear c11
              obtain ⟨y286, hy286⟩ : ∃ y_ : List Int, y_ = (x6_1.set (x29_1 : Int).toNat (wrap64 (Int.tdiv (wrap64 ((rd x6_1 x29_1) * 4)) 5))) := ⟨_, rfl⟩
              replace H : ((some (x7_1.set (x29_1 : Int).toNat (wrap64 (Int.tdiv (wrap64 ((rd x7_1 x29_1) * 4)) 5)) : List Int)).bind fun y287 => (if x8_1.length < 17592186044416 then (shapesearchlaw12_EuclidShifts.l0 k1 a1 y286 y287 (x8_1 ++ [wrap64 ((wrap64 (Int.tdiv (wrap64 ((rd x7_1 x29_1) * 4)) 5)) + (wrap64 (a1)))]) (wrap64 (x9_1 + (wrap64 ((rd y286 x29_1) - (rd y287 x29_1))))) (t280.length : Int) (wrap64 (x29_1 + 1))) else (none))) = some r := by first | (rw [hy286]; with_reducible exact H) | (have H2_ := (Option.bind_some _ _).symm.trans H; rw [hy286]; with_reducible exact H2_) | (have H2_ := (Option.bind_some _ _).symm.trans H; with_reducible exact H2_) | with_reducible exact H | (rw [hy286]; exact H) | exact H
              have Ny286 := Aside0.mk hy286
              clear hy286
              obtain ⟨y287, hy287⟩ : ∃ y_ : List Int, y_ = (x7_1.set (x29_1 : Int).toNat (wrap64 (Int.tdiv (wrap64 ((rd x7_1 x29_1) * 4)) 5))) := ⟨_, rfl⟩
              replace H : (if x8_1.length < 17592186044416 then (shapesearchlaw12_EuclidShifts.l0 k1 a1 y286 y287 (x8_1 ++ [wrap64 ((wrap64 (Int.tdiv (wrap64 ((rd x7_1 x29_1) * 4)) 5)) + (wrap64 (a1)))]) (wrap64 (x9_1 + (wrap64 ((rd y286 x29_1) - (rd y287 x29_1))))) (t280.length : Int) (wrap64 (x29_1 + 1))) else (none)) = some r := by first | (rw [hy287]; with_reducible exact H) | (have H2_ := (Option.bind_some _ _).symm.trans H; rw [hy287]; with_reducible exact H2_) | (have H2_ := (Option.bind_some _ _).symm.trans H; with_reducible exact H2_) | with_reducible exact H | (rw [hy287]; exact H) | exact H
              have Ny287 := Aside0.mk hy287
              clear hy287
              by_cases c15 : x8_1.length < 17592186044416
              · rw [if_pos c15] at H
                have LMc15 := Aside0.mk c15
                clear c15
                obtain ⟨y289, hy289⟩ : ∃ y_ : List Int, y_ = (x8_1 ++ [wrap64 ((wrap64 (Int.tdiv (wrap64 ((rd x7_1 x29_1) * 4)) 5)) + (wrap64 (a1)))]) := ⟨_, rfl⟩
                replace H : (shapesearchlaw12_EuclidShifts.l0 k1 a1 y286 y287 y289 (wrap64 (x9_1 + (wrap64 ((rd y286 x29_1) - (rd y287 x29_1))))) (t280.length : Int) (wrap64 (x29_1 + 1))) = some r := by first | (rw [hy289]; with_reducible exact H) | (have H2_ := (Option.bind_some _ _).symm.trans H; rw [hy289]; with_reducible exact H2_) | (have H2_ := (Option.bind_some _ _).symm.trans H; with_reducible exact H2_) | with_reducible exact H | (rw [hy289]; exact H) | exact H
                have Ny289 := Aside0.mk hy289
                clear hy289
                have H' := Aside0.mk H
                clear H
                try go_wp2
                have n0_ := Aside0.mk (Kd.R_drew HO_6.out)
                have n1_ := Aside0.mk (Kd.R_drew HO_7.out)
                have n2_ := Aside0.mk (Kd.R_drew HO_8.out)
                have n3_ := Aside0.mk (below_drew1 HB.out)
                clear HO_6
                clear HO_7
                clear HO_8
                clear HB
                have HO_6 := n0_
                have HO_7 := n1_
                have HO_8 := n2_
                have HB := n3_
                clear n0_ n1_ n2_ n3_
                obtain ⟨Ao17, co17, eo17⟩ := Kd.R_slice HO_6.out
                (first | subst eo17 | (injection eo17 with f1_ f2_ f3_; have f4_ := f1_.symm; have f5_ := f3_.symm; clear f1_ f2_ f3_; subst f4_; subst f5_))
                have p284 : 0 ≤ (x29_1 : Int) := of_decide_eq_true (by first | (with_reducible assumption) | assumption)
                have q284 : x29_1 < (x6_1.length : Int) := of_decide_eq_true (by first | (with_reducible assumption) | assumption)
                obtain ⟨ad284, e284, hx284_0⟩ := Kd.at_int (Kd.R_reads' HO_6.out).2.2 x29_1 p284 q284
                cases e284
                replace p284 := eq_true p284
                replace q284 := eq_true q284
                have p285 : 0 ≤ (x29_1 : Int) := of_decide_eq_true (by first | (with_reducible assumption) | assumption)
                have q285 : x29_1 < (x7_1.length : Int) := of_decide_eq_true (by first | (with_reducible assumption) | assumption)
                obtain ⟨ad285, e285, hx285_0⟩ := Kd.at_int (Kd.R_reads' HO_7.out).2.2 x29_1 p285 q285
                cases e285
                replace p285 := eq_true p285
                replace q285 := eq_true q285
                have p12 : 0 ≤ (x29_1 : Int) := of_decide_eq_true (by first | (with_reducible assumption) | assumption)
                have q12 : (x29_1 : Int) < ((x6_1.length : Int) : Int) := of_decide_eq_true (by first | (with_reducible assumption) | assumption)
                obtain ⟨go12, co12, eo12, gb12, gl12, cl12, HG12⟩ := Kd.R_form HO_6.out (by omega)
                (first | cases eo12 | (injection eo12 with ea_ en_ ec_; (first | subst ea_ | (injection ea_ with ea_; subst ea_)); subst ec_; clear en_))
                have GB12 := Aside0.mk gb12
                have GG12 := Aside0.mk HG12
                clear gb12 gl12 HG12
                (first | simp only [add_plain] at hx284_0 | skip)
                obtain ⟨hx12_0, hf12_0⟩ := Kd.R_celln 0 HO_6.out (x29_1 : Int) p12 q12
                replace p12 := eq_true p12
                replace q12 := eq_true q12
                have HP18 := Kd.R_putn HO_6.out (x29_1 : Int) (wrap64 (Int.tdiv (wrap64 ((rd x6_1 x29_1) * 4)) 5))
                rw [← Ny286.out] at HP18
                have HQ18 := Aside0.mk HP18
                clear HP18
                have p13 : 0 ≤ (x29_1 : Int) := of_decide_eq_true (by first | (with_reducible assumption) | assumption)
                have q13 : (x29_1 : Int) < ((x7_1.length : Int) : Int) := of_decide_eq_true (by first | (with_reducible assumption) | assumption)
                obtain ⟨go13, co13, eo13, gb13, gl13, cl13, HG13⟩ := Kd.R_form HO_7.out (by omega)
                (first | cases eo13 | (injection eo13 with ea_ en_ ec_; (first | subst ea_ | (injection ea_ with ea_; subst ea_)); subst ec_; clear en_))
                have GB13 := Aside0.mk gb13
                have GG13 := Aside0.mk HG13
                clear gb13 gl13 HG13
                (first | simp only [add_plain] at hx285_0 | skip)
                obtain ⟨hx13_0, hf13_0⟩ := Kd.R_celln 0 (Kd.R_far (p := ⟨go12, (x29_1 : Int).toNat, none⟩) (Kd.R_mono HO_7.out (fun k_ hk => (⟨hk, fun e_ => hk.1 (by rw [e_]; rfl)⟩ : _ ∧ k_ ≠ go12))) (fun _ hk => hk.2) (.int .i64 (wrap64 (Int.tdiv (wrap64 ((rd x6_1 x29_1) * 4)) 5)))) (x29_1 : Int) p13 q13
                replace p13 := eq_true p13
                replace q13 := eq_true q13
                have HP19 := Kd.R_putn (Kd.R_far (p := ⟨go12, (x29_1 : Int).toNat, none⟩) (Kd.R_mono HO_7.out (fun k_ hk => (⟨hk, fun e_ => hk.1 (by rw [e_]; rfl)⟩ : _ ∧ k_ ≠ go12))) (fun _ hk => hk.2) (.int .i64 (wrap64 (Int.tdiv (wrap64 ((rd x6_1 x29_1) * 4)) 5)))) (x29_1 : Int) (wrap64 (Int.tdiv (wrap64 ((rd x7_1 x29_1) * 4)) 5))
                rw [← Ny287.out] at HP19
                have HQ19 := Aside0.mk HP19
                clear HP19
                refine start_ (n := 20) (S := fun w' => w'.cell? ⟨go12, (x29_1).toNat, none⟩ = some (.int .i64 (rd x6_1 x29_1)) ∧ w'.cell? ⟨go13, (x29_1).toNat, none⟩ = some (.int .i64 (rd x7_1 x29_1))) (ds := [17, 19]) #[false, false, false, false, false, false, false, false, false, false, false, false, false, false, false, false, false, false, false, false] (by kernel_rfl) rfl rfl ⟨hx284_0, hx285_0⟩ (fun hHeld => ?_); refine with_tabW shapesearchlaw12_EuclidShifts.tab8 shapesearchlaw12_EuclidShifts.bits8 (fun HT_ HW_ => ?_)
                generalize wr.drew = w16 at HO_6 HO_7 HO_8 HB GG12 GG13 HQ18 HQ19 hf12_0 hf13_0 hx12_0 hx13_0 hx284_0 hx285_0 hHeld ⊢
                refine pure_ (i := 0) (N := some 32) (v := ?_) (a' := ?_) #[true, false, false, false, false, false, false, false, false, false, false, false, false, false, false, false, false, false, false, false] rfl rfl (any_of HT_.out (by kernel_rfl)) (fun _ _ _ h => h) (Or.inl ⟨by rfl, ?_⟩) ?_ ?_
                rotate_left
                · intro w'
                  go_simp
                  with_reducible rfl
                rotate_left
                · simp only [Act.put, List.setIfInBounds_toArray, List.set_cons_zero, List.set_cons_succ, i64_w, i32_w]
                  rfl
                refine pure_ (i := 1) (N := some 33) (v := ?_) (a' := ?_) #[true, true, false, false, false, false, false, false, false, false, false, false, false, false, false, false, false, false, false, false] rfl rfl (any_of HT_.out (by kernel_rfl)) (fun _ _ _ h => h) (Or.inl ⟨by rfl, ?_⟩) ?_ ?_
                rotate_left
                · intro w'
                  go_simp
                  with_reducible rfl
                rotate_left
                · simp only [Act.put, List.setIfInBounds_toArray, List.set_cons_zero, List.set_cons_succ, i64_w, i32_w]
                  rfl
                refine pure_ (i := 2) (N := some 34) (v := ?_) (a' := ?_) #[true, true, true, false, false, false, false, false, false, false, false, false, false, false, false, false, false, false, false, false] rfl rfl (any_of HT_.out (by kernel_rfl)) (fun _ _ _ h => h) (Or.inl ⟨by rfl, ?_⟩) ?_ ?_
                rotate_left
                · intro w'
                  go_simp
                  with_reducible rfl
                rotate_left
                · simp only [Act.put, List.setIfInBounds_toArray, List.set_cons_zero, List.set_cons_succ, i64_w, i32_w]
                  rfl
                refine pure_ (i := 3) (N := some 35) (v := ?_) (a' := ?_) #[true, true, true, true, false, false, false, false, false, false, false, false, false, false, false, false, false, false, false, false] rfl rfl (any_of HT_.out (by kernel_rfl)) (fun _ _ _ h => h) (Or.inl ⟨by rfl, ?_⟩) ?_ ?_
                rotate_left
                · intro w'
                  go_simp
                  with_reducible rfl
                rotate_left
                · simp only [Act.put, List.setIfInBounds_toArray, List.set_cons_zero, List.set_cons_succ, i64_w, i32_w]
                  rfl
                refine pure_ (i := 4) (N := some 36) (v := ?_) (a' := ?_) #[true, true, true, true, true, false, false, false, false, false, false, false, false, false, false, false, false, false, false, false] rfl rfl (any_of HT_.out (by kernel_rfl)) (fun _ _ _ h => h) (Or.inl ⟨by rfl, ?_⟩) ?_ ?_
                rotate_left
                · intro w'
                  go_simp
                  with_reducible rfl
                rotate_left
                · simp only [Act.put, List.setIfInBounds_toArray, List.set_cons_zero, List.set_cons_succ, i64_w, i32_w]
                  rfl
                refine pure_ (i := 5) (N := some 37) (v := ?_) (a' := ?_) #[true, true, true, true, true, true, false, false, false, false, false, false, false, false, false, false, false, false, false, false] rfl rfl (any_of HT_.out (by kernel_rfl)) (fun _ _ _ h => h) (Or.inl ⟨by rfl, ?_⟩) ?_ ?_
                rotate_left
                · intro w'
                  go_simp
                  with_reducible rfl
                rotate_left
                · simp only [Act.put, List.setIfInBounds_toArray, List.set_cons_zero, List.set_cons_succ, i64_w, i32_w]
                  rfl
                refine pure_ (i := 6) (N := some 38) (v := ?_) (a' := ?_) #[true, true, true, true, true, true, true, false, false, false, false, false, false, false, false, false, false, false, false, false] rfl rfl (any_of HT_.out (by kernel_rfl)) (fun _ _ _ h => h) (Or.inl ⟨by rfl, ?_⟩) ?_ ?_
                rotate_left
                · intro w'
                  go_simp
                  with_reducible rfl
                rotate_left
                · simp only [Act.put, List.setIfInBounds_toArray, List.set_cons_zero, List.set_cons_succ, i64_w, i32_w]
                  rfl
                refine pure_ (i := 10) (N := some 42) (v := ?_) (a' := ?_) #[true, true, true, true, true, true, true, false, false, false, true, false, false, false, false, false, false, false, false, false] rfl rfl (any_of HT_.out (by kernel_rfl)) (fun _ _ _ h => h) (Or.inl ⟨by rfl, ?_⟩) ?_ ?_
                rotate_left
                · intro w'
                  go_simp
                  with_reducible rfl
                rotate_left
                · simp only [Act.put, List.setIfInBounds_toArray, List.set_cons_zero, List.set_cons_succ, i64_w, i32_w]
                  rfl
                refine pure_ (i := 11) (N := some 43) (v := ?_) (a' := ?_) #[true, true, true, true, true, true, true, false, false, false, true, true, false, false, false, false, false, false, false, false] rfl rfl (any_of HT_.out (by kernel_rfl)) (fun _ _ _ h => h) (Or.inl ⟨by rfl, ?_⟩) ?_ ?_
                rotate_left
                · intro w'
                  go_simp
                  with_reducible rfl
                rotate_left
                · simp only [Act.put, List.setIfInBounds_toArray, List.set_cons_zero, List.set_cons_succ, i64_w, i32_w]
                  rfl
                refine pure_ (i := 12) (N := some 44) (v := ?_) (a' := ?_) #[true, true, true, true, true, true, true, false, false, false, true, true, true, false, false, false, false, false, false, false] rfl rfl (any_of HT_.out (by kernel_rfl)) (fun _ _ _ h => h) (Or.inl ⟨by rfl, ?_⟩) ?_ ?_
                rotate_left
                · intro w'
                  go_simp
                  with_reducible rfl
                rotate_left
                · simp only [Act.put, List.setIfInBounds_toArray, List.set_cons_zero, List.set_cons_succ, i64_w, i32_w]
                  rfl
                refine take_ (i := 7) (N := some 39) (v := ?_) (a' := ?_) #[true, true, true, true, true, true, true, true, false, false, true, true, true, false, false, false, false, false, false, false] rfl rfl (take_ofW HT_.out HW_.out (by kernel_rfl)) (fun _ _ _ h => h) (Or.inl ⟨by rfl, ?_⟩) hHeld ?_ ?_
                rotate_left
                · rintro w' ⟨s0, s1⟩
                  go_simp
                  with_reducible rfl
                rotate_left
                · simp only [Act.put, List.setIfInBounds_toArray, List.set_cons_zero, List.set_cons_succ, i64_w, i32_w]
                  rfl
                refine pure_ (i := 8) (N := some 40) (v := ?_) (a' := ?_) #[true, true, true, true, true, true, true, true, true, false, true, true, true, false, false, false, false, false, false, false] rfl rfl (any_of HT_.out (by kernel_rfl)) (fun _ _ _ h => h) (Or.inl ⟨by rfl, ?_⟩) ?_ ?_
                rotate_left
                · intro w'
                  go_simp
                  with_reducible rfl
                rotate_left
                · simp only [Act.put, List.setIfInBounds_toArray, List.set_cons_zero, List.set_cons_succ, i64_w, i32_w]
                  rfl
                refine pure_ (i := 9) (N := some 41) (v := ?_) (a' := ?_) #[true, true, true, true, true, true, true, true, true, true, true, true, true, false, false, false, false, false, false, false] rfl rfl (any_of HT_.out (by kernel_rfl)) (fun _ _ _ h => h) (Or.inl ⟨by rfl, ?_⟩) ?_ ?_
                rotate_left
                · intro w'
                  go_simp
                  with_reducible rfl
                rotate_left
                · simp only [Act.put, List.setIfInBounds_toArray, List.set_cons_zero, List.set_cons_succ, i64_w, i32_w]
                  rfl
                refine take_ (i := 13) (N := some 45) (v := ?_) (a' := ?_) #[true, true, true, true, true, true, true, true, true, true, true, true, true, true, false, false, false, false, false, false] rfl rfl (take_ofW HT_.out HW_.out (by kernel_rfl)) (fun _ _ _ h => h) (Or.inl ⟨by rfl, ?_⟩) hHeld ?_ ?_
                rotate_left
                · rintro w' ⟨s0, s1⟩
                  go_simp
                  with_reducible rfl
                rotate_left
                · simp only [Act.put, List.setIfInBounds_toArray, List.set_cons_zero, List.set_cons_succ, i64_w, i32_w]
                  rfl
                refine pure_ (i := 14) (N := some 46) (v := ?_) (a' := ?_) #[true, true, true, true, true, true, true, true, true, true, true, true, true, true, true, false, false, false, false, false] rfl rfl (any_of HT_.out (by kernel_rfl)) (fun _ _ _ h => h) (Or.inl ⟨by rfl, ?_⟩) ?_ ?_
                rotate_left
                · intro w'
                  go_simp
                  with_reducible rfl
                rotate_left
                · simp only [Act.put, List.setIfInBounds_toArray, List.set_cons_zero, List.set_cons_succ, i64_w, i32_w]
                  rfl
                refine pure_ (i := 15) (N := some 47) (v := ?_) (a' := ?_) #[true, true, true, true, true, true, true, true, true, true, true, true, true, true, true, true, false, false, false, false] rfl rfl (any_of HT_.out (by kernel_rfl)) (fun _ _ _ h => h) (Or.inl ⟨by rfl, ?_⟩) ?_ ?_
                rotate_left
                · intro w'
                  go_simp
                  with_reducible rfl
                rotate_left
                · simp only [Act.put, List.setIfInBounds_toArray, List.set_cons_zero, List.set_cons_succ, i64_w, i32_w]
                  rfl
                refine pure_ (i := 16) (N := some 48) (v := ?_) (a' := ?_) #[true, true, true, true, true, true, true, true, true, true, true, true, true, true, true, true, true, false, false, false] rfl rfl (any_of HT_.out (by kernel_rfl)) (fun _ _ _ h => h) (Or.inl ⟨by rfl, ?_⟩) ?_ ?_
                rotate_left
                · intro w'
                  go_simp
                  with_reducible rfl
                rotate_left
                · simp only [Act.put, List.setIfInBounds_toArray, List.set_cons_zero, List.set_cons_succ, i64_w, i32_w]
                  rfl
                refine last_ (i := 17) (N := none) #[true, true, true, true, true, true, true, true, true, true, true, true, true, true, true, true, true, true, false, false] rfl rfl (one_of HT_.out (by kernel_rfl)) (by decide) (fun K hK => ?_)
                refine skip_ (w1 := ?_) (by rfl) rfl ?_ ?_
                rotate_left
                · go_simp
                  rfl
                refine hK.out _ _ ?_
                clear hK K
                refine pure_ (i := 18) (N := some 49) (v := ?_) (a' := ?_) #[true, true, true, true, true, true, true, true, true, true, true, true, true, true, true, true, true, true, true, false] rfl rfl (any_of HT_.out (by kernel_rfl)) (fun _ _ _ h => h) (Or.inl ⟨by rfl, ?_⟩) ?_ ?_
                rotate_left
                · intro w'
                  go_simp
                  with_reducible rfl
                rotate_left
                · simp only [Act.put, List.setIfInBounds_toArray, List.set_cons_zero, List.set_cons_succ, i64_w, i32_w]
                  rfl
                refine last_ (i := 19) (N := none) #[true, true, true, true, true, true, true, true, true, true, true, true, true, true, true, true, true, true, true, true] rfl rfl (one_of HT_.out (by kernel_rfl)) (by decide) (fun K hK => ?_)
                refine skip_ (w1 := ?_) (by rfl) rfl ?_ ?_
                rotate_left
                · go_simp
                  rfl
                refine hK.out _ _ ?_
                clear hK K
                refine done_ (done_of HT_.out (by kernel_rfl)) ?_
                have p14 : 0 ≤ (x29_1 : Int) := of_decide_eq_true (by first | (with_reducible assumption) | assumption)
                have q14 : (x29_1 : Int) < ((x7_1.length : Int) : Int) := of_decide_eq_true (by first | (with_reducible assumption) | assumption)
                replace p14 := eq_true p14
                replace q14 := eq_true q14
                try go_wp2_with (first | ((with_reducible refine gate_builtin (b := .append) (xs := #[.tmp 50, .tmp 58]) rfl ?_); at_builtin; refine Kd.R_append (Kd.int .i64) (w0 := w) w.heap.size rfl (.tmp 50) (.tmp 58) 22 3 (.int .i64 0) 8 rfl Try.underlying22 info3 rfl (by decide) (by omega) u8 x8_1 (wrap64 ((wrap64 (Int.tdiv (wrap64 ((rd x7_1 x29_1) * 4)) 5)) + (wrap64 (a1)))) [.int .i64 (wrap64 ((wrap64 (Int.tdiv (wrap64 ((rd x7_1 x29_1) * 4)) 5)) + (wrap64 (a1))))] (fun k_ => some k_ ≠ (.slice (some ⟨go12, 0, none⟩) x6_1.length co17 : Value).ownBlock ∧ some k_ ≠ (.slice (some ⟨go13, 0, none⟩) x7_1.length co7 : Value).ownBlock) (fun _ => False) rfl (by first | (go_simp; done) | (go_simp; rfl)) ?aP (fun _ hk => hk.elim) ?aF ?aO ?aB ?aS ?aL ?_; (case aP => exact rfl); (case aB => exact (by repeat (first | (with_reducible first | exact HB.out | apply below_alloc | apply pw_below_drewN | apply below_drew1 | refine below_set ?_ GB12.out | refine below_set ?_ GB13.out) | exact HB.out))); (case aF => exact (fun k_ hk => ⟨Kd.fresh' (Kd.R_lt (by (with_reducible repeat (first | apply Kd.R_alloc | apply Kd.R_drewN | apply Kd.R_drew)); exact (Kd.R_mono (Kd.R_far (p := ⟨go13, (x29_1 : Int).toNat, none⟩) (Kd.R_mono HQ18.out (fun k_ hk => (⟨hk, fun e_ => hk.1 (by rw [e_]; rfl)⟩ : _ ∧ k_ ≠ go13))) (fun _ hk => hk.2) (.int .i64 (wrap64 (Int.tdiv (wrap64 ((rd x7_1 x29_1) * 4)) 5)))) (fun _ h_ => h_.1)))) k_ hk, Kd.fresh' (Kd.R_lt (by (with_reducible repeat (first | apply Kd.R_alloc | apply Kd.R_drewN | apply Kd.R_drew)); exact (Kd.R_mono HQ19.out (fun _ h_ => h_.1)))) k_ hk⟩)); (case aO => exact (by (with_reducible repeat (first | apply Kd.R_alloc | apply Kd.R_drewN | apply Kd.R_drew)); exact Kd.R_mono (Kd.R_far (p := ⟨go13, (x29_1 : Int).toNat, none⟩) (Kd.R_far (p := ⟨go12, (x29_1 : Int).toNat, none⟩) (Kd.R_mono (Kd.R_mono HO_8.out (fun k_ hk => (⟨hk, fun e_ => hk.1 (by rw [e_]; rfl)⟩ : _ ∧ k_ ≠ go12))) (fun k_ hk => (⟨hk, fun e_ => hk.1.2 (by rw [e_]; rfl)⟩ : _ ∧ k_ ≠ go13))) (fun _ hk => hk.1.2) (.int .i64 (wrap64 (Int.tdiv (wrap64 ((rd x6_1 x29_1) * 4)) 5)))) (fun _ hk => hk.2) (.int .i64 (wrap64 (Int.tdiv (wrap64 ((rd x7_1 x29_1) * 4)) 5)))) (fun _ hk => ⟨hk.1.1.1, hk.1.1.2⟩))); (case aS => exact (below_size (by repeat (first | (with_reducible first | exact HB.out | apply below_alloc | apply pw_below_drewN | apply below_drew1 | refine below_set ?_ GB12.out | refine below_set ?_ GB13.out) | exact HB.out)))); (case aL => have := LMc15.out; omega); intro v290 w20 ho hb hg hat; rw [← Ny289.out] at ho; have n0_ := Aside0.mk (Kd.R_after (ok := (fun k_ => some k_ ≠ (.slice (some ⟨go13, 0, none⟩) x7_1.length co7 : Value).ownBlock)) (by (with_reducible repeat (first | apply Kd.R_alloc | apply Kd.R_drewN | apply Kd.R_drew)); exact Kd.R_mono (Kd.R_far (p := ⟨go13, (x29_1 : Int).toNat, none⟩) (Kd.R_mono HQ18.out (fun k_ hk => (⟨hk, fun e_ => hk.1 (by rw [e_]; rfl)⟩ : _ ∧ k_ ≠ go13))) (fun _ hk => hk.2) (.int .i64 (wrap64 (Int.tdiv (wrap64 ((rd x7_1 x29_1) * 4)) 5)))) (fun _ hk => ⟨hk.1.1, hk.1.2⟩)) hg hat); have n1_ := Aside0.mk (Kd.R_after (ok := (fun k_ => some k_ ≠ (.slice (some ⟨go12, 0, none⟩) x6_1.length co17 : Value).ownBlock)) (by (with_reducible repeat (first | apply Kd.R_alloc | apply Kd.R_drewN | apply Kd.R_drew)); exact Kd.R_mono HQ19.out (fun _ hk => ⟨hk.1.1, hk.1.2⟩)) hg hat); have n2_ := Aside0.mk (hb); have n3_ := Aside0.mk (ho); clear HO_6; clear HO_7; clear HB; clear HO_8; have HO_6 := n0_; have HO_7 := n1_; have HB := n2_; have HO291 := n3_; clear n0_ n1_ n2_ n3_; clear ho hb hg hat))
                have n0_ := Aside0.mk (Kd.R_drew HO_6.out)
                have n1_ := Aside0.mk (Kd.R_drew HO_7.out)
                have n2_ := Aside0.mk (Kd.R_drew HO291.out)
                have n3_ := Aside0.mk (below_drew1 HB.out)
                clear HO_6
                clear HO_7
                clear HO291
                clear HB
                have HO_6 := n0_
                have HO_7 := n1_
                have HO291 := n2_
                have HB := n3_
                clear n0_ n1_ n2_ n3_
                have p292 : 0 ≤ (x29_1 : Int) := of_decide_eq_true (by first | (with_reducible assumption) | assumption)
                have q292 : x29_1 < (y286.length : Int) := (by have h_ : (x29_1 : Int) < ((x6_1.length : Int) : Int) := of_decide_eq_true (by first | (with_reducible assumption) | assumption); first | (have e_ := (Kd.R_reads' HO_6.out).1; omega) | simpa only [Ny286.out, List.length_set] using h_)
                have ql292 : ((x29_1 : Int) < ((x6_1.length : Int) : Int)) = True := eq_true (of_decide_eq_true (by first | (with_reducible assumption) | assumption))
                obtain ⟨ad292, e292, hx292_0⟩ := Kd.at_int (Kd.R_reads' HO_6.out).2.2 x29_1 p292 q292
                obtain rfl : (⟨go12, 0, none⟩ : Addr) = ad292 := (by injection e292)
                (first | simp only [add_plain] at hx292_0 | simp only [add_at] at hx292_0 | simp only [Addr.add, Nat.zero_add] at hx292_0 | skip)
                replace p292 := eq_true p292
                replace q292 := eq_true q292
                have p293 : 0 ≤ (x29_1 : Int) := of_decide_eq_true (by first | (with_reducible assumption) | assumption)
                have q293 : x29_1 < (y287.length : Int) := (by have h_ : (x29_1 : Int) < ((x7_1.length : Int) : Int) := of_decide_eq_true (by first | (with_reducible assumption) | assumption); first | (have e_ := (Kd.R_reads' HO_7.out).1; omega) | simpa only [Ny287.out, List.length_set] using h_)
                have ql293 : ((x29_1 : Int) < ((x7_1.length : Int) : Int)) = True := eq_true (of_decide_eq_true (by first | (with_reducible assumption) | assumption))
                obtain ⟨ad293, e293, hx293_0⟩ := Kd.at_int (Kd.R_reads' HO_7.out).2.2 x29_1 p293 q293
                obtain rfl : (⟨go13, 0, none⟩ : Addr) = ad293 := (by injection e293)
                (first | simp only [add_plain] at hx293_0 | simp only [add_at] at hx293_0 | simp only [Addr.add, Nat.zero_add] at hx293_0 | skip)
                replace p293 := eq_true p293
                replace q293 := eq_true q293
                refine start_ (n := 12) (S := fun w' => w'.cell? ⟨go12, (x29_1).toNat, none⟩ = some (.int .i64 (rd y286 x29_1)) ∧ w'.cell? ⟨go13, (x29_1).toNat, none⟩ = some (.int .i64 (rd y287 x29_1))) (ds := []) #[false, false, false, false, false, false, false, false, false, false, false, false] (by kernel_rfl) rfl rfl ⟨hx292_0, hx293_0⟩ (fun hHeld => ?_); refine with_tabW shapesearchlaw12_EuclidShifts.tab10 shapesearchlaw12_EuclidShifts.bits10 (fun HT_ HW_ => ?_)
                generalize w20.drew = w21 at HO_6 HO_7 HO291 HB hx292_0 hx293_0 hHeld ⊢
                refine pure_ (i := 0) (N := some 60) (v := ?_) (a' := ?_) #[true, false, false, false, false, false, false, false, false, false, false, false] rfl rfl (any_of HT_.out (by kernel_rfl)) (fun _ _ _ h => h) (Or.inl ⟨by rfl, ?_⟩) ?_ ?_
                rotate_left
                · intro w'
                  go_simp
                  with_reducible rfl
                rotate_left
                · simp only [Act.put, List.setIfInBounds_toArray, List.set_cons_zero, List.set_cons_succ, i64_w, i32_w]
                  rfl
                refine pure_ (i := 1) (N := some 61) (v := ?_) (a' := ?_) #[true, true, false, false, false, false, false, false, false, false, false, false] rfl rfl (any_of HT_.out (by kernel_rfl)) (fun _ _ _ h => h) (Or.inl ⟨by rfl, ?_⟩) ?_ ?_
                rotate_left
                · intro w'
                  go_simp
                  with_reducible rfl
                rotate_left
                · simp only [Act.put, List.setIfInBounds_toArray, List.set_cons_zero, List.set_cons_succ, i64_w, i32_w]
                  rfl
                refine pure_ (i := 2) (N := some 62) (v := ?_) (a' := ?_) #[true, true, true, false, false, false, false, false, false, false, false, false] rfl rfl (any_of HT_.out (by kernel_rfl)) (fun _ _ _ h => h) (Or.inl ⟨by rfl, ?_⟩) ?_ ?_
                rotate_left
                · intro w'
                  go_simp
                  with_reducible rfl
                rotate_left
                · simp only [Act.put, List.setIfInBounds_toArray, List.set_cons_zero, List.set_cons_succ, i64_w, i32_w]
                  rfl
                refine pure_ (i := 3) (N := some 63) (v := ?_) (a' := ?_) #[true, true, true, true, false, false, false, false, false, false, false, false] rfl rfl (any_of HT_.out (by kernel_rfl)) (fun _ _ _ h => h) (Or.inl ⟨by rfl, ?_⟩) ?_ ?_
                rotate_left
                · intro w'
                  go_simp
                  with_reducible rfl
                rotate_left
                · simp only [Act.put, List.setIfInBounds_toArray, List.set_cons_zero, List.set_cons_succ, i64_w, i32_w]
                  rfl
                refine pure_ (i := 5) (N := some 65) (v := ?_) (a' := ?_) #[true, true, true, true, false, true, false, false, false, false, false, false] rfl rfl (any_of HT_.out (by kernel_rfl)) (fun _ _ _ h => h) (Or.inl ⟨by rfl, ?_⟩) ?_ ?_
                rotate_left
                · intro w'
                  go_simp
                  with_reducible rfl
                rotate_left
                · simp only [Act.put, List.setIfInBounds_toArray, List.set_cons_zero, List.set_cons_succ, i64_w, i32_w]
                  rfl
                refine pure_ (i := 6) (N := some 66) (v := ?_) (a' := ?_) #[true, true, true, true, false, true, true, false, false, false, false, false] rfl rfl (any_of HT_.out (by kernel_rfl)) (fun _ _ _ h => h) (Or.inl ⟨by rfl, ?_⟩) ?_ ?_
                rotate_left
                · intro w'
                  go_simp
                  with_reducible rfl
                rotate_left
                · simp only [Act.put, List.setIfInBounds_toArray, List.set_cons_zero, List.set_cons_succ, i64_w, i32_w]
                  rfl
                refine pure_ (i := 7) (N := some 67) (v := ?_) (a' := ?_) #[true, true, true, true, false, true, true, true, false, false, false, false] rfl rfl (any_of HT_.out (by kernel_rfl)) (fun _ _ _ h => h) (Or.inl ⟨by rfl, ?_⟩) ?_ ?_
                rotate_left
                · intro w'
                  go_simp
                  with_reducible rfl
                rotate_left
                · simp only [Act.put, List.setIfInBounds_toArray, List.set_cons_zero, List.set_cons_succ, i64_w, i32_w]
                  rfl
                refine take_ (i := 4) (N := some 64) (v := ?_) (a' := ?_) #[true, true, true, true, true, true, true, true, false, false, false, false] rfl rfl (take_ofW HT_.out HW_.out (by kernel_rfl)) (fun _ _ _ h => h) (Or.inl ⟨by rfl, ?_⟩) hHeld ?_ ?_
                rotate_left
                · rintro w' ⟨s0, s1⟩
                  go_simp
                  with_reducible rfl
                rotate_left
                · simp only [Act.put, List.setIfInBounds_toArray, List.set_cons_zero, List.set_cons_succ, i64_w, i32_w]
                  rfl
                refine take_ (i := 8) (N := some 68) (v := ?_) (a' := ?_) #[true, true, true, true, true, true, true, true, true, false, false, false] rfl rfl (take_ofW HT_.out HW_.out (by kernel_rfl)) (fun _ _ _ h => h) (Or.inl ⟨by rfl, ?_⟩) hHeld ?_ ?_
                rotate_left
                · rintro w' ⟨s0, s1⟩
                  go_simp
                  with_reducible rfl
                rotate_left
                · simp only [Act.put, List.setIfInBounds_toArray, List.set_cons_zero, List.set_cons_succ, i64_w, i32_w]
                  rfl
                refine pure_ (i := 9) (N := some 69) (v := ?_) (a' := ?_) #[true, true, true, true, true, true, true, true, true, true, false, false] rfl rfl (any_of HT_.out (by kernel_rfl)) (fun _ _ _ h => h) (Or.inl ⟨by rfl, ?_⟩) ?_ ?_
                rotate_left
                · intro w'
                  go_simp
                  with_reducible rfl
                rotate_left
                · simp only [Act.put, List.setIfInBounds_toArray, List.set_cons_zero, List.set_cons_succ, i64_w, i32_w]
                  rfl
                refine pure_ (i := 10) (N := some 70) (v := ?_) (a' := ?_) #[true, true, true, true, true, true, true, true, true, true, true, false] rfl rfl (any_of HT_.out (by kernel_rfl)) (fun _ _ _ h => h) (Or.inl ⟨by rfl, ?_⟩) ?_ ?_
                rotate_left
                · intro w'
                  go_simp
                  with_reducible rfl
                rotate_left
                · simp only [Act.put, List.setIfInBounds_toArray, List.set_cons_zero, List.set_cons_succ, i64_w, i32_w]
                  rfl
                refine pure_ (i := 11) (N := some 9) (v := ?_) (a' := ?_) #[true, true, true, true, true, true, true, true, true, true, true, true] rfl rfl (any_of HT_.out (by kernel_rfl)) (fun _ _ _ h => h) (Or.inl ⟨by rfl, ?_⟩) ?_ ?_
                rotate_left
                · intro w'
                  go_simp
                  with_reducible rfl
                rotate_left
                · simp only [Act.put, List.setIfInBounds_toArray, List.set_cons_zero, List.set_cons_succ, i64_w, i32_w]
                  rfl
                refine done_ (done_of HT_.out (by kernel_rfl)) ?_
                try go_wp2
                (try simp only [← hl7_1])
                go_roundg k1
                case measure => have := HK1.out; omega
                case rel => exact ⟨(y286), (y287), (y289), (wrap64 (x9_1 + (wrap64 ((rd y286 x29_1) - (rd y287 x29_1))))), (wrap64 (x29_1 + 1)), (by first | rfl | (simp; done) | (simp [*]; done)), (by first | rfl | (simp; done) | (simp [*]; done)), H', ⟨by have := HK1.out; omega⟩, ⟨by (try simp only [hl7_1]); (with_reducible repeat (first | apply Kd.R_alloc | apply Kd.R_drewN | apply Kd.R_drew)); exact HO_6.out⟩, ⟨by (try simp only [hl7_1]); (with_reducible repeat (first | apply Kd.R_alloc | apply Kd.R_drewN | apply Kd.R_drew)); exact HO_7.out⟩, ⟨by (try simp only [hl7_1]); (with_reducible repeat (first | apply Kd.R_alloc | apply Kd.R_drewN | apply Kd.R_drew)); exact HO291.out⟩, ⟨by repeat (first | (with_reducible first | exact HB.out | apply below_alloc | apply pw_below_drewN | apply below_drew1) | exact HB.out)⟩⟩
              · rw [if_neg c15] at H
                exact absurd H (by simp)
            · rw [if_neg c11] at H
              exact absurd H (by simp)
          · rw [if_neg c10] at H
            exact absurd H (by simp)
        · rw [if_neg c9] at H
          exact absurd H (by simp)
      · rw [if_neg c8] at H
        have c8b0 : decide (x29_1 < (t280.length : Int)) = false := decide_eq_false c8
        (try (have c8b0h := c8b0; simp only [hl7_1] at c8b0h))
        clear c8
        replace H := Option.bind_eq_some_iff.mp H
        obtain ⟨⟨t294, t295, t296⟩, A220, H⟩ := H
        replace H : ((euclid_Shifted.f k1 x6_1 x8_1).bind fun bt298 => ((euclid_Distance.f k1 x6_1 x8_1).bind fun bt302 => (shapesearchlaw12_EuclidShifts.l1 k1 x6_1 x7_1 x9_1 t296 bt298.2.2 bt302.1 bt302.2 (x6_1.length : Int) 0 (x6_1.length : Int) 0 t294 t295 bt298.1 bt298.2.1))) = some r := H
        have A22 := Aside0.mk A220
        clear A220
        replace H := Option.bind_eq_some_iff.mp H
        obtain ⟨⟨t298, t299, t300⟩, A230, H⟩ := H
        replace H : ((euclid_Distance.f k1 x6_1 x8_1).bind fun bt302 => (shapesearchlaw12_EuclidShifts.l1 k1 x6_1 x7_1 x9_1 t296 t300 bt302.1 bt302.2 (x6_1.length : Int) 0 (x6_1.length : Int) 0 t294 t295 t298 t299)) = some r := H
        have A23 := Aside0.mk A230
        clear A230
        replace H := Option.bind_eq_some_iff.mp H
        obtain ⟨⟨t302, t303⟩, A240, H⟩ := H
        replace H : (shapesearchlaw12_EuclidShifts.l1 k1 x6_1 x7_1 x9_1 t296 t300 t302 t303 (x6_1.length : Int) 0 (x6_1.length : Int) 0 t294 t295 t298 t299) = some r := H
        have A24 := Aside0.mk A240
        clear A240
        have H' := Aside0.mk H
        clear H
        obtain ⟨Ao25, co25, eo25⟩ := Kd.R_slice HO_6.out
        subst eo25
        go_wp2_with (first | ((with_reducible refine gate_callee (f := 16) rfl ?_); refine goesL_ (some 75) rfl rfl Try.func16 (by kernel_rfl) rfl #[.slice Ao25 x6_1.length co25, .slice Ao7 x7_1.length co7] rfl (by (try simp only [List.map_toArray, List.map_cons, List.map_nil]); first | done | rfl | (simp only [List.length_drop, List.length_take]; rfl)) ?_; (with_reducible refine (euclid_Shifted.calls k1 _ _ x6_1 _ _ x7_1 t294 t295 t296 _ ?side1 ?side2 ?side3 ?side4 A22.out).mono ?_); (case side1 => repeat (first | exact (Kd.R_reads' HO_6.out).2.2 | (with_reducible refine Kd.C_alloc ?_ _) | (with_reducible refine Kd.C_drewN ?_ _) | (with_reducible refine Kd.C_drew ?_))); (case side2 => exact (Kd.R_reads' HO_6.out).2.1); (case side3 => repeat (first | exact (Kd.R_reads' HO_7.out).2.2 | (with_reducible refine Kd.C_alloc ?_ _) | (with_reducible refine Kd.C_drewN ?_ _) | (with_reducible refine Kd.C_drew ?_))); (case side4 => exact (Kd.R_reads' HO_7.out).2.1); rintro e w26 ⟨rfl, hb⟩; refine ⟨_, rfl, ?_⟩; have n0_ := Aside0.mk (Kd.R_below (by (with_reducible repeat (first | apply Kd.R_alloc | apply Kd.R_drewN | apply Kd.R_drew)); exact HO_6.out) hb); have n1_ := Aside0.mk (Kd.R_below (by (with_reducible repeat (first | apply Kd.R_alloc | apply Kd.R_drewN | apply Kd.R_drew)); exact HO_7.out) hb); have n2_ := Aside0.mk (Kd.R_below (by (with_reducible repeat (first | apply Kd.R_alloc | apply Kd.R_drewN | apply Kd.R_drew)); exact HO_8.out) hb); have n3_ := Aside0.mk (below_step (by repeat (first | (with_reducible first | exact HB.out | apply below_alloc | apply pw_below_drewN | apply below_drew1) | exact HB.out)) hb); clear HO_6; clear HO_7; clear HO_8; clear HB; have HO_6 := n0_; have HO_7 := n1_; have HO_8 := n2_; have HB := n3_; clear n0_ n1_ n2_ n3_; (try clear hb); (try clear hb2); (try clear hk); (try clear hi)) | ((with_reducible refine gate_dst (N := 11) rfl ?_); refine box_event ?hg (N := 11) ?hd (cs := #[.int .i64 0, .int .i64 0]) (t := 37) ?hr ?_; (case hd => rfl); (case hg => rfl); (case hr => first | (go_simp; done) | (go_simp; rfl)); intro gb297 hg w27 hbox hb; have n0_ := Aside0.mk (Kd.R_below (by (with_reducible repeat (first | apply Kd.R_alloc | apply Kd.R_drewN | apply Kd.R_drew)); exact HO_6.out) hb); have n1_ := Aside0.mk (Kd.R_below (by (with_reducible repeat (first | apply Kd.R_alloc | apply Kd.R_drewN | apply Kd.R_drew)); exact HO_7.out) hb); have n2_ := Aside0.mk (Kd.R_below (by (with_reducible repeat (first | apply Kd.R_alloc | apply Kd.R_drewN | apply Kd.R_drew)); exact HO_8.out) hb); have n3_ := Aside0.mk (below_step (by repeat (first | (with_reducible first | exact HB.out | apply below_alloc | apply pw_below_drewN | apply below_drew1) | exact HB.out)) hb); have n4_ := Aside0.mk (hbox); have n5_ := Aside0.mk ((by rw [hg]; exact (below_size (by repeat (first | (with_reducible first | exact HB.out | apply below_alloc | apply pw_below_drewN | apply below_drew1) | exact HB.out))) : w.heap.size ≤ gb297)); have n6_ := Aside0.mk ((by rw [hg]; exact (below_size (by repeat (first | (with_reducible first | exact HB.out | apply below_alloc | apply pw_below_drewN | apply below_drew1) | exact HB.out))) : w.heap.size ≤ gb297)); clear HO_6; clear HO_7; clear HO_8; clear HB; have HO_6 := n0_; have HO_7 := n1_; have HO_8 := n2_; have HB := n3_; have BK297 := n4_; have GW297 := n5_; have GE297 := n6_; clear n0_ n1_ n2_ n3_ n4_ n5_ n6_; clear hb hbox hg; have hcz28_0 : w27.cell? ⟨gb297, 0, none⟩ = some (.int .i64 0) := (blk_cell BK297.out 0).trans rfl; have hcz28_1 : w27.cell? ⟨gb297, 1, none⟩ = some (.int .i64 0) := (blk_cell BK297.out 1).trans rfl; have hfz28_0 := blk_frozen BK297.out 0; have hfz28_1 := blk_frozen BK297.out 1; obtain ⟨Ao29, co29, eo29⟩ := Kd.R_slice HO_8.out; subst eo29) | ((with_reducible refine gate_callee (f := 16) rfl ?_); refine goesL_ (some 81) rfl rfl Try.func16 (by kernel_rfl) rfl #[.slice Ao25 x6_1.length co25, .slice Ao29 x8_1.length co29] rfl (by (try simp only [List.map_toArray, List.map_cons, List.map_nil]); first | done | rfl | (simp only [List.length_drop, List.length_take]; rfl)) ?_; (with_reducible refine (euclid_Shifted.calls k1 _ _ x6_1 _ _ x8_1 t298 t299 t300 _ ?side1 ?side2 ?side3 ?side4 A23.out).mono ?_); (case side1 => refine (Kd.R_reads' (e := 3) (base := w.heap.size) (ok := fun k_ => (some k_ ≠ (.slice Ao7 x7_1.length co7 : Value).ownBlock ∧ some k_ ≠ (.slice Ao29 x8_1.length co29 : Value).ownBlock)) (n := x6_1.length) (c := co25) ?_).2.2; exact (by (with_reducible repeat (first | apply Kd.R_alloc | apply Kd.R_drewN | apply Kd.R_drew)); exact (Kd.R_mono (Kd.R_far (p := ⟨gb297, 1, none⟩) (Kd.R_far (p := ⟨gb297, 0, none⟩) (Kd.R_types HO_6.out BK297.out (by decide)) (fun _ hk => hk.2) (.int .i64 t294)) (fun _ hk => hk.2) (.int .i64 t295)) (fun _ h_ => h_.1)))); (case side2 => exact (Kd.R_reads' HO_6.out).2.1); (case side3 => refine (Kd.R_reads' (e := 3) (base := w.heap.size) (ok := fun k_ => (some k_ ≠ (.slice Ao25 x6_1.length co25 : Value).ownBlock ∧ some k_ ≠ (.slice Ao7 x7_1.length co7 : Value).ownBlock)) (n := x8_1.length) (c := co29) ?_).2.2; exact (by (with_reducible repeat (first | apply Kd.R_alloc | apply Kd.R_drewN | apply Kd.R_drew)); exact (Kd.R_mono (Kd.R_far (p := ⟨gb297, 1, none⟩) (Kd.R_far (p := ⟨gb297, 0, none⟩) (Kd.R_types HO_8.out BK297.out (by decide)) (fun _ hk => hk.2) (.int .i64 t294)) (fun _ hk => hk.2) (.int .i64 t295)) (fun _ h_ => h_.1)))); (case side4 => exact (Kd.R_reads' HO_8.out).2.1); rintro e w30 ⟨rfl, hb⟩; refine ⟨_, rfl, ?_⟩; have n0_ := Aside0.mk (Kd.R_below (by (with_reducible repeat (first | apply Kd.R_alloc | apply Kd.R_drewN | apply Kd.R_drew)); exact (Kd.R_mono (Kd.R_far (p := ⟨gb297, 1, none⟩) (Kd.R_far (p := ⟨gb297, 0, none⟩) (Kd.R_types HO_6.out BK297.out (by decide)) (fun _ hk => hk.2) (.int .i64 t294)) (fun _ hk => hk.2) (.int .i64 t295)) (fun _ h_ => h_.1))) hb); have n1_ := Aside0.mk (Kd.R_below (by (with_reducible repeat (first | apply Kd.R_alloc | apply Kd.R_drewN | apply Kd.R_drew)); exact (Kd.R_mono (Kd.R_far (p := ⟨gb297, 1, none⟩) (Kd.R_far (p := ⟨gb297, 0, none⟩) (Kd.R_types HO_7.out BK297.out (by decide)) (fun _ hk => hk.2) (.int .i64 t294)) (fun _ hk => hk.2) (.int .i64 t295)) (fun _ h_ => h_.1))) hb); have n2_ := Aside0.mk (Kd.R_below (by (with_reducible repeat (first | apply Kd.R_alloc | apply Kd.R_drewN | apply Kd.R_drew)); exact (Kd.R_mono (Kd.R_far (p := ⟨gb297, 1, none⟩) (Kd.R_far (p := ⟨gb297, 0, none⟩) (Kd.R_types HO_8.out BK297.out (by decide)) (fun _ hk => hk.2) (.int .i64 t294)) (fun _ hk => hk.2) (.int .i64 t295)) (fun _ h_ => h_.1))) hb); have n3_ := Aside0.mk (blk_below (g := gb297) (o := .cells #[.int .i64 t294, .int .i64 t295] 37 (0, 0)) (by (with_reducible repeat (first | refine blk_drewN ?_ _ | refine blk_drew ?_ | refine blk_alloc ?_ _)); refine blk_put (cs := #[.int .i64 t294, .int .i64 0]) ?_ 1 _ rfl; (with_reducible repeat (first | refine blk_drewN ?_ _ | refine blk_drew ?_ | refine blk_alloc ?_ _)); refine blk_put (cs := #[.int .i64 0, .int .i64 0]) ?_ 0 _ rfl; (with_reducible repeat (first | refine blk_drewN ?_ _ | refine blk_drew ?_ | refine blk_alloc ?_ _)); exact BK297.out) hb); have n4_ := Aside0.mk (below_step (by repeat (first | (with_reducible first | exact HB.out | apply below_alloc | apply pw_below_drewN | apply below_drew1 | refine below_set ?_ GE297.out) | exact HB.out)) hb); clear HO_6; clear HO_7; clear HO_8; clear BK297; clear HB; have HO_6 := n0_; have HO_7 := n1_; have HO_8 := n2_; have BK297 := n3_; have HB := n4_; clear n0_ n1_ n2_ n3_ n4_; (try clear hb); (try clear hb2); (try clear hk); (try clear hi)) | ((with_reducible refine gate_dst (N := 13) rfl ?_); refine box_event ?hg (N := 13) ?hd (cs := #[.int .i64 0, .int .i64 0]) (t := 37) ?hr ?_; (case hd => rfl); (case hg => rfl); (case hr => first | (go_simp; done) | (go_simp; rfl)); intro gb301 hg w31 hbox hb; have n0_ := Aside0.mk (Kd.R_below (by (with_reducible repeat (first | apply Kd.R_alloc | apply Kd.R_drewN | apply Kd.R_drew)); exact HO_6.out) hb); have n1_ := Aside0.mk (Kd.R_below (by (with_reducible repeat (first | apply Kd.R_alloc | apply Kd.R_drewN | apply Kd.R_drew)); exact HO_7.out) hb); have n2_ := Aside0.mk (Kd.R_below (by (with_reducible repeat (first | apply Kd.R_alloc | apply Kd.R_drewN | apply Kd.R_drew)); exact HO_8.out) hb); have n3_ := Aside0.mk (blk_below (g := gb297) (o := .cells #[.int .i64 t294, .int .i64 t295] 37 (0, 0)) (by (with_reducible repeat (first | refine blk_drewN ?_ _ | refine blk_drew ?_ | refine blk_alloc ?_ _)); exact BK297.out) hb); have n4_ := Aside0.mk (below_step (by repeat (first | (with_reducible first | exact HB.out | apply below_alloc | apply pw_below_drewN | apply below_drew1 | refine below_set ?_ GE297.out) | exact HB.out)) hb); have n5_ := Aside0.mk (hbox); have n6_ := Aside0.mk ((by rw [hg]; exact (below_size (by repeat (first | (with_reducible first | exact HB.out | apply below_alloc | apply pw_below_drewN | apply below_drew1 | refine below_set ?_ GE297.out) | exact HB.out))) : w.heap.size ≤ gb301)); have n7_ := Aside0.mk ((by rw [hg]; exact (below_size (by repeat (first | (with_reducible first | exact HB.out | apply below_alloc | apply pw_below_drewN | apply below_drew1 | refine below_set ?_ GE297.out) | exact HB.out))) : w.heap.size ≤ gb301)); have n8_ := Aside0.mk ((by rw [hg]; exact Nat.ne_of_lt (blk_lt (g := gb297) (o := .cells #[.int .i64 t294, .int .i64 t295] 37 (0, 0)) (by (with_reducible repeat (first | refine blk_drewN ?_ _ | refine blk_drew ?_ | refine blk_alloc ?_ _)); exact BK297.out)) : gb297 ≠ gb301)); have n9_ := Aside0.mk ((by rw [hg]; exact Nat.ne_of_gt (blk_lt (g := gb297) (o := .cells #[.int .i64 t294, .int .i64 t295] 37 (0, 0)) (by (with_reducible repeat (first | refine blk_drewN ?_ _ | refine blk_drew ?_ | refine blk_alloc ?_ _)); exact BK297.out)) : gb301 ≠ gb297)); clear HO_6; clear HO_7; clear HO_8; clear BK297; clear HB; have HO_6 := n0_; have HO_7 := n1_; have HO_8 := n2_; have BK297 := n3_; have HB := n4_; have BK301 := n5_; have GW301 := n6_; have GE301 := n7_; have NB297_301 := n8_; have NB301_297 := n9_; clear n0_ n1_ n2_ n3_ n4_ n5_ n6_ n7_ n8_ n9_; clear hb hbox hg; have hnb32 := NB301_297.out; have hnc32 := NB297_301.out; have hcz33_0 : w31.cell? ⟨gb301, 0, none⟩ = some (.int .i64 0) := (blk_cell BK301.out 0).trans rfl; have hcz33_1 : w31.cell? ⟨gb301, 1, none⟩ = some (.int .i64 0) := (blk_cell BK301.out 1).trans rfl; have hfz33_0 := blk_frozen BK301.out 0; have hfz33_1 := blk_frozen BK301.out 1) | ((with_reducible refine gate_callee (f := 12) rfl ?_); refine goesL_ (some 87) rfl rfl Try.func12 (by kernel_rfl) rfl #[.slice Ao25 x6_1.length co25, .slice Ao29 x8_1.length co29] rfl (by (try simp only [List.map_toArray, List.map_cons, List.map_nil]); first | done | rfl | (simp only [List.length_drop, List.length_take]; rfl)) ?_; (with_reducible refine (euclid_Distance.calls k1 _ _ x6_1 _ _ x8_1 t302 t303 _ ?side1 ?side2 ?side3 ?side4 A24.out).mono ?_); (case side1 => refine (Kd.R_reads' (e := 3) (base := w.heap.size) (ok := fun k_ => (some k_ ≠ (.slice Ao7 x7_1.length co7 : Value).ownBlock ∧ some k_ ≠ (.slice Ao29 x8_1.length co29 : Value).ownBlock)) (n := x6_1.length) (c := co25) ?_).2.2; exact (by (with_reducible repeat (first | apply Kd.R_alloc | apply Kd.R_drewN | apply Kd.R_drew)); exact (Kd.R_mono (Kd.R_far (p := ⟨gb301, 1, none⟩) (Kd.R_far (p := ⟨gb301, 0, none⟩) (Kd.R_types HO_6.out BK301.out (by decide)) (fun _ hk => hk.2) (.int .i64 t298)) (fun _ hk => hk.2) (.int .i64 t299)) (fun _ h_ => h_.1)))); (case side2 => exact (Kd.R_reads' HO_6.out).2.1); (case side3 => refine (Kd.R_reads' (e := 3) (base := w.heap.size) (ok := fun k_ => (some k_ ≠ (.slice Ao25 x6_1.length co25 : Value).ownBlock ∧ some k_ ≠ (.slice Ao7 x7_1.length co7 : Value).ownBlock)) (n := x8_1.length) (c := co29) ?_).2.2; exact (by (with_reducible repeat (first | apply Kd.R_alloc | apply Kd.R_drewN | apply Kd.R_drew)); exact (Kd.R_mono (Kd.R_far (p := ⟨gb301, 1, none⟩) (Kd.R_far (p := ⟨gb301, 0, none⟩) (Kd.R_types HO_8.out BK301.out (by decide)) (fun _ hk => hk.2) (.int .i64 t298)) (fun _ hk => hk.2) (.int .i64 t299)) (fun _ h_ => h_.1)))); (case side4 => exact (Kd.R_reads' HO_8.out).2.1); rintro e w' ⟨rfl, ⟨nd, rfl⟩⟩; refine ⟨_, rfl, ?_⟩))
        go_loopg [18, 94] k1 (fun kq v18 v94 w' => ∃ (x18_2 : Int) (x94_2 : Int), v18 = .int .i64 x18_2 ∧ v94 = .int .i64 x94_2 ∧ Aside0 (shapesearchlaw12_EuclidShifts.l1 kq x6_1 x7_1 x9_1 t296 t300 t302 t303 (x6_1.length : Int) x18_2 (x6_1.length : Int) x94_2 t294 t295 t298 t299 = some r) ∧ Aside0 (kq ≤ k1) ∧ Aside0 (Kd.R (Kd.int .i64) 3 w' w.heap.size (fun k_ => some k_ ≠ ((.slice Ao7 x7_1.length co7) : Value).ownBlock) (.slice Ao25 x6_1.length co25) x6_1) ∧ Aside0 (Kd.R (Kd.int .i64) 3 w' w.heap.size (fun k_ => some k_ ≠ ((.slice Ao25 x6_1.length co25) : Value).ownBlock) (.slice Ao7 x7_1.length co7) x7_1) ∧ Aside0 (w'.heap[gb297]? = some (.cells #[.int .i64 t294, .int .i64 t295] 37 (0, 0))) ∧ Aside0 (w'.heap[gb301]? = some (.cells #[.int .i64 t298, .int .i64 t299] 37 (0, 0))) ∧ Aside0 (Below w.heap.size w w'))
        case atStart => exact ⟨(0), (0), (by first | rfl | (simp; done) | (simp [*]; done)), (by first | rfl | (simp; done) | (simp [*]; done)), H', ⟨Nat.le_refl _⟩, ⟨by (try simp only [hl7_1]); (with_reducible repeat (first | apply Kd.R_alloc | apply Kd.R_drewN | apply Kd.R_drew)); exact Kd.R_mono (Kd.R_far (p := ⟨gb301, 1, none⟩) (Kd.R_far (p := ⟨gb301, 0, none⟩) (Kd.R_types HO_6.out BK301.out (by decide)) (fun _ hk => hk.2) (.int .i64 t298)) (fun _ hk => hk.2) (.int .i64 t299)) (fun _ hk => hk.1.1)⟩, ⟨by (try simp only [hl7_1]); (with_reducible repeat (first | apply Kd.R_alloc | apply Kd.R_drewN | apply Kd.R_drew)); exact Kd.R_mono (Kd.R_far (p := ⟨gb301, 1, none⟩) (Kd.R_far (p := ⟨gb301, 0, none⟩) (Kd.R_types HO_7.out BK301.out (by decide)) (fun _ hk => hk.2) (.int .i64 t298)) (fun _ hk => hk.2) (.int .i64 t299)) (fun _ hk => hk.1.1)⟩, ⟨by (try simp only [hl7_1]); (with_reducible repeat (first | refine blk_drewN ?_ _ | refine blk_drew ?_ | refine blk_alloc ?_ _)); refine blk_far ?_ NB297_301.out _; (with_reducible repeat (first | refine blk_drewN ?_ _ | refine blk_drew ?_ | refine blk_alloc ?_ _)); refine blk_far ?_ NB297_301.out _; (with_reducible repeat (first | refine blk_drewN ?_ _ | refine blk_drew ?_ | refine blk_alloc ?_ _)); exact BK297.out⟩, ⟨by (try simp only [hl7_1]); (with_reducible repeat (first | refine blk_drewN ?_ _ | refine blk_drew ?_ | refine blk_alloc ?_ _)); refine blk_put (cs := #[.int .i64 t298, .int .i64 0]) ?_ 1 _ rfl; (with_reducible repeat (first | refine blk_drewN ?_ _ | refine blk_drew ?_ | refine blk_alloc ?_ _)); refine blk_put (cs := #[.int .i64 0, .int .i64 0]) ?_ 0 _ rfl; (with_reducible repeat (first | refine blk_drewN ?_ _ | refine blk_drew ?_ | refine blk_alloc ?_ _)); exact BK301.out⟩, ⟨by repeat (first | (with_reducible first | exact HB.out | apply below_alloc | apply pw_below_drewN | apply below_drew1 | refine below_set ?_ GE297.out | refine below_set ?_ GE301.out) | exact HB.out)⟩⟩
        case round =>
          clear H'
          try clear c1
          try clear p1
          try clear q1
          try clear hx1
          try clear p2
          try clear q2
          try clear hx2
          try clear c3
          try clear c4
          try clear p6
          try clear c8
          try clear c8b0
          try clear c9
          try clear c9b0
          try clear c10
          try clear c10b0
          try clear c11
          try clear c11b0
          try clear c12
          try clear p12
          try clear q12
          try clear hx12
          try clear hf12
          try clear p13
          try clear q13
          try clear hx13
          try clear hf13
          try clear p14
          try clear q14
          try clear c15
          try clear c16
          try clear p28
          try clear q28
          try clear hx28
          try clear p29
          try clear q29
          try clear hx29
          try clear c32
          try clear hcz28_0
          try clear hcz28_1
          try clear hcz33_0
          try clear hcz33_1
          try clear hfz28_0
          try clear hfz28_1
          try clear hfz33_0
          try clear hfz33_1
          try clear hx12_0
          try clear hx13_0
          try clear hx284_0
          try clear hx285_0
          try clear hx292_0
          try clear hx293_0
          try clear p12
          try clear p13
          try clear p14
          try clear p2
          try clear p284
          try clear p285
          try clear p292
          try clear p293
          try clear q12
          try clear q13
          try clear q14
          try clear q284
          try clear q285
          try clear q292
          try clear q293
          obtain ⟨x18_2, x94_2, rfl, rfl, HA, HK2, HO_6, HO_7, BK297, BK301, HB⟩ := hrel
          cases gk with
          | zero => exact absurd HA.out (by simp [shapesearchlaw12_EuclidShifts.l1])
          | succ k2 =>
            have H := HA.out
            clear HA
            simp only [shapesearchlaw12_EuclidShifts.l1] at H
            by_cases c34 : x94_2 < (x6_1.length : Int)
            · rw [if_pos c34] at H
              have c34b0 : decide (x94_2 < (x6_1.length : Int)) = true := decide_eq_true c34
              (try (have c34b0h := c34b0; simp only [hl7_1] at c34b0h))
              clear c34
              by_cases c35 : 0 ≤ x94_2
              · rw [if_pos c35] at H
                have c35b0 : decide (0 ≤ x94_2) = true := decide_eq_true c35
                clear c35
                by_cases c36 : x94_2 < (x6_1.length : Int)
                · rw [if_pos c36] at H
                  have c36b0 : decide (x94_2 < (x6_1.length : Int)) = true := decide_eq_true c36
                  (try (have c36b0h := c36b0; simp only [hl7_1] at c36b0h))
                  clear c36
                  by_cases c37 : x94_2 < (x7_1.length : Int)
                  · rw [if_pos c37] at H
                    have c37b0 : decide (x94_2 < (x7_1.length : Int)) = true := decide_eq_true c37
                    (try (have c37b0h := c37b0; simp only [hl7_1] at c37b0h))
                    clear c37
                    have H' := Aside0.mk H
                    clear H
                    try go_wp2
                    have n0_ := Aside0.mk (Kd.R_drew HO_6.out)
                    have n1_ := Aside0.mk (Kd.R_drew HO_7.out)
                    have n2_ := Aside0.mk (blk_drew BK297.out)
                    have n3_ := Aside0.mk (blk_drew BK301.out)
                    have n4_ := Aside0.mk (below_drew1 HB.out)
                    clear HO_6
                    clear HO_7
                    clear BK297
                    clear BK301
                    clear HB
                    have HO_6 := n0_
                    have HO_7 := n1_
                    have BK297 := n2_
                    have BK301 := n3_
                    have HB := n4_
                    clear n0_ n1_ n2_ n3_ n4_
                    have p304 : 0 ≤ (x94_2 : Int) := of_decide_eq_true (by first | (with_reducible assumption) | assumption)
                    have q304 : x94_2 < (x6_1.length : Int) := of_decide_eq_true (by first | (with_reducible assumption) | assumption)
                    obtain ⟨ad304, e304, hx304_0⟩ := Kd.at_int (Kd.R_reads' HO_6.out).2.2 x94_2 p304 q304
                    cases e304
                    replace p304 := eq_true p304
                    replace q304 := eq_true q304
                    have p305 : 0 ≤ (x94_2 : Int) := of_decide_eq_true (by first | (with_reducible assumption) | assumption)
                    have q305 : x94_2 < (x7_1.length : Int) := of_decide_eq_true (by first | (with_reducible assumption) | assumption)
                    obtain ⟨ad305, e305, hx305_0⟩ := Kd.at_int (Kd.R_reads' HO_7.out).2.2 x94_2 p305 q305
                    cases e305
                    replace p305 := eq_true p305
                    replace q305 := eq_true q305
                    have p306 : 0 ≤ (x94_2 : Int) := of_decide_eq_true (by first | (with_reducible assumption) | assumption)
                    have q306 : x94_2 < (x6_1.length : Int) := of_decide_eq_true (by first | (with_reducible assumption) | assumption)
                    obtain ⟨ad306, e306, hx306_0⟩ := Kd.at_int (Kd.R_reads' HO_6.out).2.2 x94_2 p306 q306
                    obtain rfl : ad304 = ad306 := (by injection e306)
                    replace p306 := eq_true p306
                    replace q306 := eq_true q306
                    have p307 : 0 ≤ (x94_2 : Int) := of_decide_eq_true (by first | (with_reducible assumption) | assumption)
                    have q307 : x94_2 < (x7_1.length : Int) := of_decide_eq_true (by first | (with_reducible assumption) | assumption)
                    obtain ⟨ad307, e307, hx307_0⟩ := Kd.at_int (Kd.R_reads' HO_7.out).2.2 x94_2 p307 q307
                    obtain rfl : ad305 = ad307 := (by injection e307)
                    replace p307 := eq_true p307
                    replace q307 := eq_true q307
                    refine start_ (n := 34) (S := fun w' => w'.cell? (ad304.add (x94_2).toNat) = some (.int .i64 (rd x6_1 x94_2)) ∧ w'.cell? (ad305.add (x94_2).toNat) = some (.int .i64 (rd x7_1 x94_2)) ∧ w'.cell? (ad304.add (x94_2).toNat) = some (.int .i64 (rd x6_1 x94_2)) ∧ w'.cell? (ad305.add (x94_2).toNat) = some (.int .i64 (rd x7_1 x94_2))) (ds := []) #[false, false, false, false, false, false, false, false, false, false, false, false, false, false, false, false, false, false, false, false, false, false, false, false, false, false, false, false, false, false, false, false, false, false] (by kernel_rfl) rfl rfl ⟨hx304_0, hx305_0, hx306_0, hx307_0⟩ (fun hHeld => ?_); refine with_tabW shapesearchlaw12_EuclidShifts.tab20 shapesearchlaw12_EuclidShifts.bits20 (fun HT_ HW_ => ?_)
                    generalize wr.drew = w38 at HO_6 HO_7 BK297 BK301 HB hx304_0 hx305_0 hx306_0 hx307_0 hHeld ⊢
                    refine pure_ (i := 0) (N := some 97) (v := ?_) (a' := ?_) #[true, false, false, false, false, false, false, false, false, false, false, false, false, false, false, false, false, false, false, false, false, false, false, false, false, false, false, false, false, false, false, false, false, false] rfl rfl (any_of HT_.out (by kernel_rfl)) (fun _ _ _ h => h) (Or.inl ⟨by rfl, ?_⟩) ?_ ?_
                    rotate_left
                    · intro w'
                      go_simp
                      with_reducible rfl
                    rotate_left
                    · simp only [Act.put, List.setIfInBounds_toArray, List.set_cons_zero, List.set_cons_succ, i64_w, i32_w]
                      rfl
                    refine pure_ (i := 1) (N := some 98) (v := ?_) (a' := ?_) #[true, true, false, false, false, false, false, false, false, false, false, false, false, false, false, false, false, false, false, false, false, false, false, false, false, false, false, false, false, false, false, false, false, false] rfl rfl (any_of HT_.out (by kernel_rfl)) (fun _ _ _ h => h) (Or.inl ⟨by rfl, ?_⟩) ?_ ?_
                    rotate_left
                    · intro w'
                      go_simp
                      with_reducible rfl
                    rotate_left
                    · simp only [Act.put, List.setIfInBounds_toArray, List.set_cons_zero, List.set_cons_succ, i64_w, i32_w]
                      rfl
                    refine pure_ (i := 2) (N := some 99) (v := ?_) (a' := ?_) #[true, true, true, false, false, false, false, false, false, false, false, false, false, false, false, false, false, false, false, false, false, false, false, false, false, false, false, false, false, false, false, false, false, false] rfl rfl (any_of HT_.out (by kernel_rfl)) (fun _ _ _ h => h) (Or.inl ⟨by rfl, ?_⟩) ?_ ?_
                    rotate_left
                    · intro w'
                      go_simp
                      with_reducible rfl
                    rotate_left
                    · simp only [Act.put, List.setIfInBounds_toArray, List.set_cons_zero, List.set_cons_succ, i64_w, i32_w]
                      rfl
                    refine pure_ (i := 3) (N := some 100) (v := ?_) (a' := ?_) #[true, true, true, true, false, false, false, false, false, false, false, false, false, false, false, false, false, false, false, false, false, false, false, false, false, false, false, false, false, false, false, false, false, false] rfl rfl (any_of HT_.out (by kernel_rfl)) (fun _ _ _ h => h) (Or.inl ⟨by rfl, ?_⟩) ?_ ?_
                    rotate_left
                    · intro w'
                      go_simp
                      with_reducible rfl
                    rotate_left
                    · simp only [Act.put, List.setIfInBounds_toArray, List.set_cons_zero, List.set_cons_succ, i64_w, i32_w]
                      rfl
                    refine pure_ (i := 4) (N := some 101) (v := ?_) (a' := ?_) #[true, true, true, true, true, false, false, false, false, false, false, false, false, false, false, false, false, false, false, false, false, false, false, false, false, false, false, false, false, false, false, false, false, false] rfl rfl (any_of HT_.out (by kernel_rfl)) (fun _ _ _ h => h) (Or.inl ⟨by rfl, ?_⟩) ?_ ?_
                    rotate_left
                    · intro w'
                      go_simp
                      with_reducible rfl
                    rotate_left
                    · simp only [Act.put, List.setIfInBounds_toArray, List.set_cons_zero, List.set_cons_succ, i64_w, i32_w]
                      rfl
                    refine pure_ (i := 7) (N := some 104) (v := ?_) (a' := ?_) #[true, true, true, true, true, false, false, true, false, false, false, false, false, false, false, false, false, false, false, false, false, false, false, false, false, false, false, false, false, false, false, false, false, false] rfl rfl (any_of HT_.out (by kernel_rfl)) (fun _ _ _ h => h) (Or.inl ⟨by rfl, ?_⟩) ?_ ?_
                    rotate_left
                    · intro w'
                      go_simp
                      with_reducible rfl
                    rotate_left
                    · simp only [Act.put, List.setIfInBounds_toArray, List.set_cons_zero, List.set_cons_succ, i64_w, i32_w]
                      rfl
                    refine pure_ (i := 8) (N := some 105) (v := ?_) (a' := ?_) #[true, true, true, true, true, false, false, true, true, false, false, false, false, false, false, false, false, false, false, false, false, false, false, false, false, false, false, false, false, false, false, false, false, false] rfl rfl (any_of HT_.out (by kernel_rfl)) (fun _ _ _ h => h) (Or.inl ⟨by rfl, ?_⟩) ?_ ?_
                    rotate_left
                    · intro w'
                      go_simp
                      with_reducible rfl
                    rotate_left
                    · simp only [Act.put, List.setIfInBounds_toArray, List.set_cons_zero, List.set_cons_succ, i64_w, i32_w]
                      rfl
                    refine pure_ (i := 9) (N := some 106) (v := ?_) (a' := ?_) #[true, true, true, true, true, false, false, true, true, true, false, false, false, false, false, false, false, false, false, false, false, false, false, false, false, false, false, false, false, false, false, false, false, false] rfl rfl (any_of HT_.out (by kernel_rfl)) (fun _ _ _ h => h) (Or.inl ⟨by rfl, ?_⟩) ?_ ?_
                    rotate_left
                    · intro w'
                      go_simp
                      with_reducible rfl
                    rotate_left
                    · simp only [Act.put, List.setIfInBounds_toArray, List.set_cons_zero, List.set_cons_succ, i64_w, i32_w]
                      rfl
                    refine pure_ (i := 10) (N := some 107) (v := ?_) (a' := ?_) #[true, true, true, true, true, false, false, true, true, true, true, false, false, false, false, false, false, false, false, false, false, false, false, false, false, false, false, false, false, false, false, false, false, false] rfl rfl (any_of HT_.out (by kernel_rfl)) (fun _ _ _ h => h) (Or.inl ⟨by rfl, ?_⟩) ?_ ?_
                    rotate_left
                    · intro w'
                      go_simp
                      with_reducible rfl
                    rotate_left
                    · simp only [Act.put, List.setIfInBounds_toArray, List.set_cons_zero, List.set_cons_succ, i64_w, i32_w]
                      rfl
                    refine pure_ (i := 14) (N := some 111) (v := ?_) (a' := ?_) #[true, true, true, true, true, false, false, true, true, true, true, false, false, false, true, false, false, false, false, false, false, false, false, false, false, false, false, false, false, false, false, false, false, false] rfl rfl (any_of HT_.out (by kernel_rfl)) (fun _ _ _ h => h) (Or.inl ⟨by rfl, ?_⟩) ?_ ?_
                    rotate_left
                    · intro w'
                      go_simp
                      with_reducible rfl
                    rotate_left
                    · simp only [Act.put, List.setIfInBounds_toArray, List.set_cons_zero, List.set_cons_succ, i64_w, i32_w]
                      rfl
                    refine pure_ (i := 16) (N := some 113) (v := ?_) (a' := ?_) #[true, true, true, true, true, false, false, true, true, true, true, false, false, false, true, false, true, false, false, false, false, false, false, false, false, false, false, false, false, false, false, false, false, false] rfl rfl (any_of HT_.out (by kernel_rfl)) (fun _ _ _ h => h) (Or.inl ⟨by rfl, ?_⟩) ?_ ?_
                    rotate_left
                    · intro w'
                      go_simp
                      with_reducible rfl
                    rotate_left
                    · simp only [Act.put, List.setIfInBounds_toArray, List.set_cons_zero, List.set_cons_succ, i64_w, i32_w]
                      rfl
                    refine pure_ (i := 17) (N := some 114) (v := ?_) (a' := ?_) #[true, true, true, true, true, false, false, true, true, true, true, false, false, false, true, false, true, true, false, false, false, false, false, false, false, false, false, false, false, false, false, false, false, false] rfl rfl (any_of HT_.out (by kernel_rfl)) (fun _ _ _ h => h) (Or.inl ⟨by rfl, ?_⟩) ?_ ?_
                    rotate_left
                    · intro w'
                      go_simp
                      with_reducible rfl
                    rotate_left
                    · simp only [Act.put, List.setIfInBounds_toArray, List.set_cons_zero, List.set_cons_succ, i64_w, i32_w]
                      rfl
                    refine pure_ (i := 18) (N := some 115) (v := ?_) (a' := ?_) #[true, true, true, true, true, false, false, true, true, true, true, false, false, false, true, false, true, true, true, false, false, false, false, false, false, false, false, false, false, false, false, false, false, false] rfl rfl (any_of HT_.out (by kernel_rfl)) (fun _ _ _ h => h) (Or.inl ⟨by rfl, ?_⟩) ?_ ?_
                    rotate_left
                    · intro w'
                      go_simp
                      with_reducible rfl
                    rotate_left
                    · simp only [Act.put, List.setIfInBounds_toArray, List.set_cons_zero, List.set_cons_succ, i64_w, i32_w]
                      rfl
                    refine pure_ (i := 19) (N := some 116) (v := ?_) (a' := ?_) #[true, true, true, true, true, false, false, true, true, true, true, false, false, false, true, false, true, true, true, true, false, false, false, false, false, false, false, false, false, false, false, false, false, false] rfl rfl (any_of HT_.out (by kernel_rfl)) (fun _ _ _ h => h) (Or.inl ⟨by rfl, ?_⟩) ?_ ?_
                    rotate_left
                    · intro w'
                      go_simp
                      with_reducible rfl
                    rotate_left
                    · simp only [Act.put, List.setIfInBounds_toArray, List.set_cons_zero, List.set_cons_succ, i64_w, i32_w]
                      rfl
                    refine pure_ (i := 22) (N := some 119) (v := ?_) (a' := ?_) #[true, true, true, true, true, false, false, true, true, true, true, false, false, false, true, false, true, true, true, true, false, false, true, false, false, false, false, false, false, false, false, false, false, false] rfl rfl (any_of HT_.out (by kernel_rfl)) (fun _ _ _ h => h) (Or.inl ⟨by rfl, ?_⟩) ?_ ?_
                    rotate_left
                    · intro w'
                      go_simp
                      with_reducible rfl
                    rotate_left
                    · simp only [Act.put, List.setIfInBounds_toArray, List.set_cons_zero, List.set_cons_succ, i64_w, i32_w]
                      rfl
                    refine pure_ (i := 23) (N := some 120) (v := ?_) (a' := ?_) #[true, true, true, true, true, false, false, true, true, true, true, false, false, false, true, false, true, true, true, true, false, false, true, true, false, false, false, false, false, false, false, false, false, false] rfl rfl (any_of HT_.out (by kernel_rfl)) (fun _ _ _ h => h) (Or.inl ⟨by rfl, ?_⟩) ?_ ?_
                    rotate_left
                    · intro w'
                      go_simp
                      with_reducible rfl
                    rotate_left
                    · simp only [Act.put, List.setIfInBounds_toArray, List.set_cons_zero, List.set_cons_succ, i64_w, i32_w]
                      rfl
                    refine pure_ (i := 24) (N := some 121) (v := ?_) (a' := ?_) #[true, true, true, true, true, false, false, true, true, true, true, false, false, false, true, false, true, true, true, true, false, false, true, true, true, false, false, false, false, false, false, false, false, false] rfl rfl (any_of HT_.out (by kernel_rfl)) (fun _ _ _ h => h) (Or.inl ⟨by rfl, ?_⟩) ?_ ?_
                    rotate_left
                    · intro w'
                      go_simp
                      with_reducible rfl
                    rotate_left
                    · simp only [Act.put, List.setIfInBounds_toArray, List.set_cons_zero, List.set_cons_succ, i64_w, i32_w]
                      rfl
                    refine pure_ (i := 25) (N := some 122) (v := ?_) (a' := ?_) #[true, true, true, true, true, false, false, true, true, true, true, false, false, false, true, false, true, true, true, true, false, false, true, true, true, true, false, false, false, false, false, false, false, false] rfl rfl (any_of HT_.out (by kernel_rfl)) (fun _ _ _ h => h) (Or.inl ⟨by rfl, ?_⟩) ?_ ?_
                    rotate_left
                    · intro w'
                      go_simp
                      with_reducible rfl
                    rotate_left
                    · simp only [Act.put, List.setIfInBounds_toArray, List.set_cons_zero, List.set_cons_succ, i64_w, i32_w]
                      rfl
                    refine pure_ (i := 29) (N := some 126) (v := ?_) (a' := ?_) #[true, true, true, true, true, false, false, true, true, true, true, false, false, false, true, false, true, true, true, true, false, false, true, true, true, true, false, false, false, true, false, false, false, false] rfl rfl (any_of HT_.out (by kernel_rfl)) (fun _ _ _ h => h) (Or.inl ⟨by rfl, ?_⟩) ?_ ?_
                    rotate_left
                    · intro w'
                      go_simp
                      with_reducible rfl
                    rotate_left
                    · simp only [Act.put, List.setIfInBounds_toArray, List.set_cons_zero, List.set_cons_succ, i64_w, i32_w]
                      rfl
                    refine take_ (i := 5) (N := some 102) (v := ?_) (a' := ?_) #[true, true, true, true, true, true, false, true, true, true, true, false, false, false, true, false, true, true, true, true, false, false, true, true, true, true, false, false, false, true, false, false, false, false] rfl rfl (take_ofW HT_.out HW_.out (by kernel_rfl)) (fun _ _ _ h => h) (Or.inl ⟨by rfl, ?_⟩) hHeld ?_ ?_
                    rotate_left
                    · rintro w' ⟨s0, s1, s2, s3⟩
                      go_simp
                      with_reducible rfl
                    rotate_left
                    · simp only [Act.put, List.setIfInBounds_toArray, List.set_cons_zero, List.set_cons_succ, i64_w, i32_w]
                      rfl
                    refine pure_ (i := 6) (N := some 103) (v := ?_) (a' := ?_) #[true, true, true, true, true, true, true, true, true, true, true, false, false, false, true, false, true, true, true, true, false, false, true, true, true, true, false, false, false, true, false, false, false, false] rfl rfl (any_of HT_.out (by kernel_rfl)) (fun _ _ _ h => h) (Or.inl ⟨by rfl, ?_⟩) ?_ ?_
                    rotate_left
                    · intro w'
                      go_simp
                      with_reducible rfl
                    rotate_left
                    · simp only [Act.put, List.setIfInBounds_toArray, List.set_cons_zero, List.set_cons_succ, i64_w, i32_w]
                      rfl
                    refine take_ (i := 11) (N := some 108) (v := ?_) (a' := ?_) #[true, true, true, true, true, true, true, true, true, true, true, true, false, false, true, false, true, true, true, true, false, false, true, true, true, true, false, false, false, true, false, false, false, false] rfl rfl (take_ofW HT_.out HW_.out (by kernel_rfl)) (fun _ _ _ h => h) (Or.inl ⟨by rfl, ?_⟩) hHeld ?_ ?_
                    rotate_left
                    · rintro w' ⟨s0, s1, s2, s3⟩
                      go_simp
                      with_reducible rfl
                    rotate_left
                    · simp only [Act.put, List.setIfInBounds_toArray, List.set_cons_zero, List.set_cons_succ, i64_w, i32_w]
                      rfl
                    refine pure_ (i := 12) (N := some 109) (v := ?_) (a' := ?_) #[true, true, true, true, true, true, true, true, true, true, true, true, true, false, true, false, true, true, true, true, false, false, true, true, true, true, false, false, false, true, false, false, false, false] rfl rfl (any_of HT_.out (by kernel_rfl)) (fun _ _ _ h => h) (Or.inl ⟨by rfl, ?_⟩) ?_ ?_
                    rotate_left
                    · intro w'
                      go_simp
                      with_reducible rfl
                    rotate_left
                    · simp only [Act.put, List.setIfInBounds_toArray, List.set_cons_zero, List.set_cons_succ, i64_w, i32_w]
                      rfl
                    refine pure_ (i := 13) (N := some 110) (v := ?_) (a' := ?_) #[true, true, true, true, true, true, true, true, true, true, true, true, true, true, true, false, true, true, true, true, false, false, true, true, true, true, false, false, false, true, false, false, false, false] rfl rfl (any_of HT_.out (by kernel_rfl)) (fun _ _ _ h => h) (Or.inl ⟨by rfl, ?_⟩) ?_ ?_
                    rotate_left
                    · intro w'
                      go_simp
                      with_reducible rfl
                    rotate_left
                    · simp only [Act.put, List.setIfInBounds_toArray, List.set_cons_zero, List.set_cons_succ, i64_w, i32_w]
                      rfl
                    refine pure_ (i := 15) (N := some 112) (v := ?_) (a' := ?_) #[true, true, true, true, true, true, true, true, true, true, true, true, true, true, true, true, true, true, true, true, false, false, true, true, true, true, false, false, false, true, false, false, false, false] rfl rfl (any_of HT_.out (by kernel_rfl)) (fun _ _ _ h => h) (Or.inl ⟨by rfl, ?_⟩) ?_ ?_
                    rotate_left
                    · intro w'
                      go_simp
                      with_reducible rfl
                    rotate_left
                    · simp only [Act.put, List.setIfInBounds_toArray, List.set_cons_zero, List.set_cons_succ, i64_w, i32_w]
                      rfl
                    refine take_ (i := 20) (N := some 117) (v := ?_) (a' := ?_) #[true, true, true, true, true, true, true, true, true, true, true, true, true, true, true, true, true, true, true, true, true, false, true, true, true, true, false, false, false, true, false, false, false, false] rfl rfl (take_ofW HT_.out HW_.out (by kernel_rfl)) (fun _ _ _ h => h) (Or.inl ⟨by rfl, ?_⟩) hHeld ?_ ?_
                    rotate_left
                    · rintro w' ⟨s0, s1, s2, s3⟩
                      go_simp
                      with_reducible rfl
                    rotate_left
                    · simp only [Act.put, List.setIfInBounds_toArray, List.set_cons_zero, List.set_cons_succ, i64_w, i32_w]
                      rfl
                    refine pure_ (i := 21) (N := some 118) (v := ?_) (a' := ?_) #[true, true, true, true, true, true, true, true, true, true, true, true, true, true, true, true, true, true, true, true, true, true, true, true, true, true, false, false, false, true, false, false, false, false] rfl rfl (any_of HT_.out (by kernel_rfl)) (fun _ _ _ h => h) (Or.inl ⟨by rfl, ?_⟩) ?_ ?_
                    rotate_left
                    · intro w'
                      go_simp
                      with_reducible rfl
                    rotate_left
                    · simp only [Act.put, List.setIfInBounds_toArray, List.set_cons_zero, List.set_cons_succ, i64_w, i32_w]
                      rfl
                    refine take_ (i := 26) (N := some 123) (v := ?_) (a' := ?_) #[true, true, true, true, true, true, true, true, true, true, true, true, true, true, true, true, true, true, true, true, true, true, true, true, true, true, true, false, false, true, false, false, false, false] rfl rfl (take_ofW HT_.out HW_.out (by kernel_rfl)) (fun _ _ _ h => h) (Or.inl ⟨by rfl, ?_⟩) hHeld ?_ ?_
                    rotate_left
                    · rintro w' ⟨s0, s1, s2, s3⟩
                      go_simp
                      with_reducible rfl
                    rotate_left
                    · simp only [Act.put, List.setIfInBounds_toArray, List.set_cons_zero, List.set_cons_succ, i64_w, i32_w]
                      rfl
                    refine pure_ (i := 27) (N := some 124) (v := ?_) (a' := ?_) #[true, true, true, true, true, true, true, true, true, true, true, true, true, true, true, true, true, true, true, true, true, true, true, true, true, true, true, true, false, true, false, false, false, false] rfl rfl (any_of HT_.out (by kernel_rfl)) (fun _ _ _ h => h) (Or.inl ⟨by rfl, ?_⟩) ?_ ?_
                    rotate_left
                    · intro w'
                      go_simp
                      with_reducible rfl
                    rotate_left
                    · simp only [Act.put, List.setIfInBounds_toArray, List.set_cons_zero, List.set_cons_succ, i64_w, i32_w]
                      rfl
                    refine pure_ (i := 28) (N := some 125) (v := ?_) (a' := ?_) #[true, true, true, true, true, true, true, true, true, true, true, true, true, true, true, true, true, true, true, true, true, true, true, true, true, true, true, true, true, true, false, false, false, false] rfl rfl (any_of HT_.out (by kernel_rfl)) (fun _ _ _ h => h) (Or.inl ⟨by rfl, ?_⟩) ?_ ?_
                    rotate_left
                    · intro w'
                      go_simp
                      with_reducible rfl
                    rotate_left
                    · simp only [Act.put, List.setIfInBounds_toArray, List.set_cons_zero, List.set_cons_succ, i64_w, i32_w]
                      rfl
                    refine pure_ (i := 30) (N := some 127) (v := ?_) (a' := ?_) #[true, true, true, true, true, true, true, true, true, true, true, true, true, true, true, true, true, true, true, true, true, true, true, true, true, true, true, true, true, true, true, false, false, false] rfl rfl (any_of HT_.out (by kernel_rfl)) (fun _ _ _ h => h) (Or.inl ⟨by rfl, ?_⟩) ?_ ?_
                    rotate_left
                    · intro w'
                      go_simp
                      with_reducible rfl
                    rotate_left
                    · simp only [Act.put, List.setIfInBounds_toArray, List.set_cons_zero, List.set_cons_succ, i64_w, i32_w]
                      rfl
                    refine pure_ (i := 31) (N := some 128) (v := ?_) (a' := ?_) #[true, true, true, true, true, true, true, true, true, true, true, true, true, true, true, true, true, true, true, true, true, true, true, true, true, true, true, true, true, true, true, true, false, false] rfl rfl (any_of HT_.out (by kernel_rfl)) (fun _ _ _ h => h) (Or.inl ⟨by rfl, ?_⟩) ?_ ?_
                    rotate_left
                    · intro w'
                      go_simp
                      with_reducible rfl
                    rotate_left
                    · simp only [Act.put, List.setIfInBounds_toArray, List.set_cons_zero, List.set_cons_succ, i64_w, i32_w]
                      rfl
                    refine pure_ (i := 32) (N := some 129) (v := ?_) (a' := ?_) #[true, true, true, true, true, true, true, true, true, true, true, true, true, true, true, true, true, true, true, true, true, true, true, true, true, true, true, true, true, true, true, true, true, false] rfl rfl (any_of HT_.out (by kernel_rfl)) (fun _ _ _ h => h) (Or.inl ⟨by rfl, ?_⟩) ?_ ?_
                    rotate_left
                    · intro w'
                      go_simp
                      with_reducible rfl
                    rotate_left
                    · simp only [Act.put, List.setIfInBounds_toArray, List.set_cons_zero, List.set_cons_succ, i64_w, i32_w]
                      rfl
                    refine pure_ (i := 33) (N := some 18) (v := ?_) (a' := ?_) #[true, true, true, true, true, true, true, true, true, true, true, true, true, true, true, true, true, true, true, true, true, true, true, true, true, true, true, true, true, true, true, true, true, true] rfl rfl (any_of HT_.out (by kernel_rfl)) (fun _ _ _ h => h) (Or.inl ⟨by rfl, ?_⟩) ?_ ?_
                    rotate_left
                    · intro w'
                      go_simp
                      with_reducible rfl
                    rotate_left
                    · simp only [Act.put, List.setIfInBounds_toArray, List.set_cons_zero, List.set_cons_succ, i64_w, i32_w]
                      rfl
                    refine done_ (done_of HT_.out (by kernel_rfl)) ?_
                    try go_wp2
                    go_roundg k2
                    case measure => have := HK1.out; have := HK2.out; omega
                    case rel => exact ⟨(wrap64 (x18_2 + (wrap64 ((wrap64 ((wrap64 ((wrap64 ((x6_1.length : Int) * (rd x6_1 x94_2))) - (wrap64 ((x6_1.length : Int) * (rd x7_1 x94_2))))) - x9_1)) * (wrap64 ((wrap64 ((wrap64 ((x6_1.length : Int) * (rd x6_1 x94_2))) - (wrap64 ((x6_1.length : Int) * (rd x7_1 x94_2))))) - x9_1)))))), (wrap64 (x94_2 + 1)), (by first | rfl | (simp; done) | (simp [*]; done)), (by first | rfl | (simp; done) | (simp [*]; done)), H', ⟨by have := HK1.out; have := HK2.out; omega⟩, ⟨by (try simp only [hl7_1]); (with_reducible repeat (first | apply Kd.R_alloc | apply Kd.R_drewN | apply Kd.R_drew)); exact HO_6.out⟩, ⟨by (try simp only [hl7_1]); (with_reducible repeat (first | apply Kd.R_alloc | apply Kd.R_drewN | apply Kd.R_drew)); exact HO_7.out⟩, ⟨by (try simp only [hl7_1]); (with_reducible repeat (first | refine blk_drewN ?_ _ | refine blk_drew ?_ | refine blk_alloc ?_ _)); exact BK297.out⟩, ⟨by (try simp only [hl7_1]); (with_reducible repeat (first | refine blk_drewN ?_ _ | refine blk_drew ?_ | refine blk_alloc ?_ _)); exact BK301.out⟩, ⟨by repeat (first | (with_reducible first | exact HB.out | apply below_alloc | apply pw_below_drewN | apply below_drew1 | refine below_set ?_ GE297.out | refine below_set ?_ GE301.out) | exact HB.out)⟩⟩
                  · rw [if_neg c37] at H
                    exact absurd H (by simp)
                · rw [if_neg c36] at H
                  exact absurd H (by simp)
              · rw [if_neg c35] at H
                exact absurd H (by simp)
            · rw [if_neg c34] at H
              have c34b0 : decide (x94_2 < (x6_1.length : Int)) = false := decide_eq_false c34
              (try (have c34b0h := c34b0; simp only [hl7_1] at c34b0h))
              clear c34
              by_cases c39 : t296 = 0
              · rw [if_pos c39] at H
                have c39b0 : (t296 == 0) = true := beq_iff_eq.mpr c39
                have c39b1 : (t296 != 0) = false := bne_eq_false_iff_eq.mpr c39
                clear c39
                by_cases c40 : t300 = 0
                · rw [if_pos c40] at H
                  have c40b0 : (t300 == 0) = true := beq_iff_eq.mpr c40
                  have c40b1 : (t300 != 0) = false := bne_eq_false_iff_eq.mpr c40
                  clear c40
                  by_cases c41 : t303 = 0
                  · rw [if_pos c41] at H
                    have c41b0 : (t303 == 0) = true := beq_iff_eq.mpr c41
                    have c41b1 : (t303 != 0) = false := bne_eq_false_iff_eq.mpr c41
                    clear c41
                    by_cases c42 : (t294 == t298 && (t295 == t299)) = true
                    · rw [if_pos c42] at H
                      have c42b0 : (t294 == t298 && (t295 == t299)) = true := c42
                      (try (have c42b1 : decide (t294 = t298 && (t295 == t299)) = true := by simpa using c42))
                      (try (have c42b2 : (t294 == t298 && (t295 == t299)) = true := by simpa using c42))
                      clear c42
                      by_cases c43 : (wrap64 ((wrap64 (t294 * (x6_1.length : Int))) * (x6_1.length : Int))) = (wrap64 (x18_2 * t295))
                      · rw [if_pos c43] at H
                        have c43b0 : ((wrap64 ((wrap64 (t294 * (x6_1.length : Int))) * (x6_1.length : Int))) == (wrap64 (x18_2 * t295))) = true := beq_iff_eq.mpr c43
                        have c43b1 : ((wrap64 ((wrap64 (t294 * (x6_1.length : Int))) * (x6_1.length : Int))) != (wrap64 (x18_2 * t295))) = false := bne_eq_false_iff_eq.mpr c43
                        (try (have c43b0h := c43b0; simp only [hl7_1] at c43b0h))
                        (try (have c43b1h := c43b1; simp only [hl7_1] at c43b1h))
                        clear c43
                        replace H := Option.bind_eq_some_iff.mp H
                        obtain ⟨t308, A440, H⟩ := H
                        replace H : (if t308 ≤ 0 then ((shapesearchlaw12_awake.f k2).bind fun t309 => (some t309)) else (some false)) = some r := H
                        have A44 := Aside0.mk A440
                        clear A440
                        by_cases c45 : t308 ≤ 0
                        · rw [if_pos c45] at H
                          have c45b0 : decide (t308 ≤ 0) = true := decide_eq_true c45
                          clear c45
                          replace H := Option.bind_eq_some_iff.mp H
                          obtain ⟨t309, A460, H⟩ := H
                          replace H : (some t309) = some r := H
                          have A46 := Aside0.mk A460
                          clear A460
                          obtain rfl := Option.some.inj H
                          have hnb47 := NB297_301.out
                          have hnc47 := NB301_297.out
                          have hcz48_0 : wr.cell? ⟨gb297, 0, none⟩ = some (.int .i64 t294) := (blk_cell BK297.out 0).trans rfl
                          have hcz48_1 : wr.cell? ⟨gb297, 1, none⟩ = some (.int .i64 t295) := (blk_cell BK297.out 1).trans rfl
                          have hfz48_0 := blk_frozen BK297.out 0
                          have hfz48_1 := blk_frozen BK297.out 1
                          have hcz49_0 : wr.cell? ⟨gb301, 0, none⟩ = some (.int .i64 t298) := (blk_cell BK301.out 0).trans rfl
                          have hcz49_1 : wr.cell? ⟨gb301, 1, none⟩ = some (.int .i64 t299) := (blk_cell BK301.out 1).trans rfl
                          have hfz49_0 := blk_frozen BK301.out 0
                          have hfz49_1 := blk_frozen BK301.out 1
                          go_wp2_with (first | (go_at_call 17; (with_reducible refine (shapesearchref01_Cmp.calls k2 t294 t295 t302 1 t308 _ A44.out).mono ?_); rintro e w50 ⟨rfl, hb⟩; have n0_ := Aside0.mk (Kd.R_below (by (with_reducible repeat (first | apply Kd.R_alloc | apply Kd.R_drewN | apply Kd.R_drew)); exact HO_6.out) hb); have n1_ := Aside0.mk (Kd.R_below (by (with_reducible repeat (first | apply Kd.R_alloc | apply Kd.R_drewN | apply Kd.R_drew)); exact HO_7.out) hb); have n2_ := Aside0.mk (blk_below (g := gb297) (o := .cells #[.int .i64 t294, .int .i64 t295] 37 (0, 0)) (by (with_reducible repeat (first | refine blk_drewN ?_ _ | refine blk_drew ?_ | refine blk_alloc ?_ _)); exact BK297.out) hb); have n3_ := Aside0.mk (blk_below (g := gb301) (o := .cells #[.int .i64 t298, .int .i64 t299] 37 (0, 0)) (by (with_reducible repeat (first | refine blk_drewN ?_ _ | refine blk_drew ?_ | refine blk_alloc ?_ _)); exact BK301.out) hb); have n4_ := Aside0.mk (below_step (by repeat (first | (with_reducible first | exact HB.out | apply below_alloc | apply pw_below_drewN | apply below_drew1 | refine below_set ?_ GE297.out | refine below_set ?_ GE301.out) | exact HB.out)) hb); clear HO_6; clear HO_7; clear BK297; clear BK301; clear HB; have HO_6 := n0_; have HO_7 := n1_; have BK297 := n2_; have BK301 := n3_; have HB := n4_; clear n0_ n1_ n2_ n3_ n4_; (try clear hb); (try clear hb2); (try clear hk); (try clear hi)) | (go_at_call 15; (with_reducible refine (shapesearchlaw12_awake.calls k2  t309 _ A46.out).mono ?_); rintro e w51 ⟨rfl, hb⟩; have n0_ := Aside0.mk (Kd.R_below (by (with_reducible repeat (first | apply Kd.R_alloc | apply Kd.R_drewN | apply Kd.R_drew)); exact HO_6.out) hb); have n1_ := Aside0.mk (Kd.R_below (by (with_reducible repeat (first | apply Kd.R_alloc | apply Kd.R_drewN | apply Kd.R_drew)); exact HO_7.out) hb); have n2_ := Aside0.mk (blk_below (g := gb297) (o := .cells #[.int .i64 t294, .int .i64 t295] 37 (0, 0)) (by (with_reducible repeat (first | refine blk_drewN ?_ _ | refine blk_drew ?_ | refine blk_alloc ?_ _)); exact BK297.out) hb); have n3_ := Aside0.mk (blk_below (g := gb301) (o := .cells #[.int .i64 t298, .int .i64 t299] 37 (0, 0)) (by (with_reducible repeat (first | refine blk_drewN ?_ _ | refine blk_drew ?_ | refine blk_alloc ?_ _)); exact BK301.out) hb); have n4_ := Aside0.mk (below_step (by repeat (first | (with_reducible first | exact HB.out | apply below_alloc | apply pw_below_drewN | apply below_drew1 | refine below_set ?_ GE297.out | refine below_set ?_ GE301.out) | exact HB.out)) hb); clear HO_6; clear HO_7; clear BK297; clear BK301; clear HB; have HO_6 := n0_; have HO_7 := n1_; have BK297 := n2_; have BK301 := n3_; have HB := n4_; clear n0_ n1_ n2_ n3_ n4_; (try clear hb); (try clear hb2); (try clear hk); (try clear hi)))
                          go_ret
                          exact ⟨by first | rfl | (simp [errW_none, errW_some] <;> rfl) | (simp [*, errW_none, errW_some] <;> rfl), by repeat (first | (with_reducible first | exact HB.out | apply below_alloc | apply pw_below_drewN | apply below_drew1 | refine below_set ?_ GE297.out | refine below_set ?_ GE301.out) | exact HB.out)⟩
                        · rw [if_neg c45] at H
                          have c45b0 : decide (t308 ≤ 0) = false := decide_eq_false c45
                          clear c45
                          obtain rfl := Option.some.inj H
                          have hnb52 := NB297_301.out
                          have hnc52 := NB301_297.out
                          have hcz53_0 : wr.cell? ⟨gb297, 0, none⟩ = some (.int .i64 t294) := (blk_cell BK297.out 0).trans rfl
                          have hcz53_1 : wr.cell? ⟨gb297, 1, none⟩ = some (.int .i64 t295) := (blk_cell BK297.out 1).trans rfl
                          have hfz53_0 := blk_frozen BK297.out 0
                          have hfz53_1 := blk_frozen BK297.out 1
                          have hcz54_0 : wr.cell? ⟨gb301, 0, none⟩ = some (.int .i64 t298) := (blk_cell BK301.out 0).trans rfl
                          have hcz54_1 : wr.cell? ⟨gb301, 1, none⟩ = some (.int .i64 t299) := (blk_cell BK301.out 1).trans rfl
                          have hfz54_0 := blk_frozen BK301.out 0
                          have hfz54_1 := blk_frozen BK301.out 1
                          go_wp2_with (first | (go_at_call 17; (with_reducible refine (shapesearchref01_Cmp.calls k2 t294 t295 t302 1 t308 _ A44.out).mono ?_); rintro e w55 ⟨rfl, hb⟩; have n0_ := Aside0.mk (Kd.R_below (by (with_reducible repeat (first | apply Kd.R_alloc | apply Kd.R_drewN | apply Kd.R_drew)); exact HO_6.out) hb); have n1_ := Aside0.mk (Kd.R_below (by (with_reducible repeat (first | apply Kd.R_alloc | apply Kd.R_drewN | apply Kd.R_drew)); exact HO_7.out) hb); have n2_ := Aside0.mk (blk_below (g := gb297) (o := .cells #[.int .i64 t294, .int .i64 t295] 37 (0, 0)) (by (with_reducible repeat (first | refine blk_drewN ?_ _ | refine blk_drew ?_ | refine blk_alloc ?_ _)); exact BK297.out) hb); have n3_ := Aside0.mk (blk_below (g := gb301) (o := .cells #[.int .i64 t298, .int .i64 t299] 37 (0, 0)) (by (with_reducible repeat (first | refine blk_drewN ?_ _ | refine blk_drew ?_ | refine blk_alloc ?_ _)); exact BK301.out) hb); have n4_ := Aside0.mk (below_step (by repeat (first | (with_reducible first | exact HB.out | apply below_alloc | apply pw_below_drewN | apply below_drew1 | refine below_set ?_ GE297.out | refine below_set ?_ GE301.out) | exact HB.out)) hb); clear HO_6; clear HO_7; clear BK297; clear BK301; clear HB; have HO_6 := n0_; have HO_7 := n1_; have BK297 := n2_; have BK301 := n3_; have HB := n4_; clear n0_ n1_ n2_ n3_ n4_; (try clear hb); (try clear hb2); (try clear hk); (try clear hi)))
                          go_ret
                          exact ⟨by first | rfl | (simp [errW_none, errW_some] <;> rfl) | (simp [*, errW_none, errW_some] <;> rfl), by repeat (first | (with_reducible first | exact HB.out | apply below_alloc | apply pw_below_drewN | apply below_drew1 | refine below_set ?_ GE297.out | refine below_set ?_ GE301.out) | exact HB.out)⟩
                      · rw [if_neg c43] at H
                        have c43b0 : ((wrap64 ((wrap64 (t294 * (x6_1.length : Int))) * (x6_1.length : Int))) == (wrap64 (x18_2 * t295))) = false := beq_eq_false_iff_ne.mpr c43
                        have c43b1 : ((wrap64 ((wrap64 (t294 * (x6_1.length : Int))) * (x6_1.length : Int))) != (wrap64 (x18_2 * t295))) = true := bne_iff_ne.mpr c43
                        (try (have c43b0h := c43b0; simp only [hl7_1] at c43b0h))
                        (try (have c43b1h := c43b1; simp only [hl7_1] at c43b1h))
                        obtain rfl := Option.some.inj H
                        have hnb56 := NB297_301.out
                        have hnc56 := NB301_297.out
                        have hcz57_0 : wr.cell? ⟨gb297, 0, none⟩ = some (.int .i64 t294) := (blk_cell BK297.out 0).trans rfl
                        have hcz57_1 : wr.cell? ⟨gb297, 1, none⟩ = some (.int .i64 t295) := (blk_cell BK297.out 1).trans rfl
                        have hfz57_0 := blk_frozen BK297.out 0
                        have hfz57_1 := blk_frozen BK297.out 1
                        have hcz58_0 : wr.cell? ⟨gb301, 0, none⟩ = some (.int .i64 t298) := (blk_cell BK301.out 0).trans rfl
                        have hcz58_1 : wr.cell? ⟨gb301, 1, none⟩ = some (.int .i64 t299) := (blk_cell BK301.out 1).trans rfl
                        have hfz58_0 := blk_frozen BK301.out 0
                        have hfz58_1 := blk_frozen BK301.out 1
                        go_wp2
                        go_ret
                        exact ⟨by first | rfl | (simp [errW_none, errW_some] <;> rfl) | (simp [*, errW_none, errW_some] <;> rfl), by repeat (first | (with_reducible first | exact HB.out | apply below_alloc | apply pw_below_drewN | apply below_drew1 | refine below_set ?_ GE297.out | refine below_set ?_ GE301.out) | exact HB.out)⟩
                    · rw [if_neg c42] at H
                      have c42b0 : (t294 == t298 && (t295 == t299)) = false := by simpa using c42
                      (try (have c42b1 : decide (t294 = t298 && (t295 == t299)) = false := by simpa using c42))
                      (try (have c42b2 : (t294 == t298 && (t295 == t299)) = false := by simpa using c42))
                      (try (have c42b3 : ¬ (t294 = t298 && (t295 == t299)) := by simpa using c42))
                      clear c42
                      obtain rfl := Option.some.inj H
                      have hnb59 := NB297_301.out
                      have hnc59 := NB301_297.out
                      have hcz60_0 : wr.cell? ⟨gb297, 0, none⟩ = some (.int .i64 t294) := (blk_cell BK297.out 0).trans rfl
                      have hcz60_1 : wr.cell? ⟨gb297, 1, none⟩ = some (.int .i64 t295) := (blk_cell BK297.out 1).trans rfl
                      have hfz60_0 := blk_frozen BK297.out 0
                      have hfz60_1 := blk_frozen BK297.out 1
                      have hcz61_0 : wr.cell? ⟨gb301, 0, none⟩ = some (.int .i64 t298) := (blk_cell BK301.out 0).trans rfl
                      have hcz61_1 : wr.cell? ⟨gb301, 1, none⟩ = some (.int .i64 t299) := (blk_cell BK301.out 1).trans rfl
                      have hfz61_0 := blk_frozen BK301.out 0
                      have hfz61_1 := blk_frozen BK301.out 1
                      go_wp2
                      go_ret
                      exact ⟨by first | rfl | (simp [errW_none, errW_some] <;> rfl) | (simp [*, errW_none, errW_some] <;> rfl), by repeat (first | (with_reducible first | exact HB.out | apply below_alloc | apply pw_below_drewN | apply below_drew1 | refine below_set ?_ GE297.out | refine below_set ?_ GE301.out) | exact HB.out)⟩
                  · rw [if_neg c41] at H
                    have c41b0 : (t303 == 0) = false := beq_eq_false_iff_ne.mpr c41
                    have c41b1 : (t303 != 0) = true := bne_iff_ne.mpr c41
                    obtain rfl := Option.some.inj H
                    go_wp2
                    go_ret
                    exact ⟨by first | rfl | (simp [errW_none, errW_some] <;> rfl) | (simp [*, errW_none, errW_some] <;> rfl), by repeat (first | (with_reducible first | exact HB.out | apply below_alloc | apply pw_below_drewN | apply below_drew1 | refine below_set ?_ GE297.out | refine below_set ?_ GE301.out) | exact HB.out)⟩
                · rw [if_neg c40] at H
                  have c40b0 : (t300 == 0) = false := beq_eq_false_iff_ne.mpr c40
                  have c40b1 : (t300 != 0) = true := bne_iff_ne.mpr c40
                  obtain rfl := Option.some.inj H
                  go_wp2
                  go_ret
                  exact ⟨by first | rfl | (simp [errW_none, errW_some] <;> rfl) | (simp [*, errW_none, errW_some] <;> rfl), by repeat (first | (with_reducible first | exact HB.out | apply below_alloc | apply pw_below_drewN | apply below_drew1 | refine below_set ?_ GE297.out | refine below_set ?_ GE301.out) | exact HB.out)⟩
              · rw [if_neg c39] at H
                have c39b0 : (t296 == 0) = false := beq_eq_false_iff_ne.mpr c39
                have c39b1 : (t296 != 0) = true := bne_iff_ne.mpr c39
                obtain rfl := Option.some.inj H
                go_wp2
                go_ret
                exact ⟨by first | rfl | (simp [errW_none, errW_some] <;> rfl) | (simp [*, errW_none, errW_some] <;> rfl), by repeat (first | (with_reducible first | exact HB.out | apply below_alloc | apply pw_below_drewN | apply below_drew1 | refine below_set ?_ GE297.out | refine below_set ?_ GE301.out) | exact HB.out)⟩

/-- THE ONE PURE STATEMENT of shapesearchlaw12_EuclidShifts: yours. -/
def shapesearchlaw12_EuclidShifts.Pure : Prop := ∀ (l0 : List Int) (a1 : Int), l0.length ≤ maxLen → l0.length * 8 ≤ 140737488351232 → (∀ x ∈ l0, (Lit.int .i64 x).wf = true) → (Lit.int .i8 a1).wf = true → ∃ k, shapesearchlaw12_EuclidShifts.f k l0 a1 = some true
theorem shapesearchlaw12_EuclidShifts.walk (P : shapesearchlaw12_EuclidShifts.Pure) (a0 : Option Addr) (len0 cap0 : Nat) (z0 : List Int) (a1 : Int) (w : World) (w0 : (a0 = none ∧ len0 = 0 ∧ cap0 = 0 ∧ z0 = []) ∨ ∃ x, a0 = some x ∧ len0 ≤ cap0 ∧ cap0 ≤ maxLen ∧ z0.length = cap0 ∧ (∀ i, i < z0.length → w.cell? (x.add i) = some (.int .i64 (z0.getD i 0))) ∧ ∀ n ∈ z0, (Lit.int .i64 n).wf = true) (y0 : len0 * 8 ≤ 140737488351232) (w1 : (Lit.int .i8 a1).wf = true) :
    Calls Try.prog 4 #[.slice a0 len0 cap0, .int .i8 a1] w fun e w' => e = .returned (.bool true) ∧ Below w.heap.size w w' := by
  obtain ⟨l0, rfl, hr0, hm0, hw0, hc0⟩ := ReadsInt.ofRowC w0
  obtain ⟨k, h⟩ := P l0 a1 hm0 y0 hw0 w1
  refine (shapesearchlaw12_EuclidShifts.calls k _ _ l0 a1 true w (Kd.C_of_reads (d := (0 : Int)) (h1 := fun _ => rfl) hr0) hc0 h).mono ?_
  rintro e w' ⟨rfl, hd⟩
  exact ⟨rfl, hd⟩

end Go.Proofs.Ytmkjmplkokfoiaa.PEuclidShifts
