/- This file proves, function by function, what the Go functions that one law uses compute; most of it was printed by a program (wip/tools of this session, over the kit's print). -/
import Derived.Test.YtmmmapkobnepcaaPEditLeastx0
import Derived.Test.YtmmmapkobnepcaaPEditLeastx3
namespace Go.Proofs.Ytmmmapkobnepcaa.PEditLeast
open Go.RowKit Go.Proofs.YtmmmapkobnepcaaW.PrintWords Go.Proofs.YtmmmapkobnepcaaW.PrintLast Go.Proofs.YtmmmapkobnepcaaW.PrintMore
attribute [local go_sem] max2_int min2_int max_two min_two max_three min_three max_four min_four   -- for this text's walks alone
set_option linter.unusedVariables false
set_option linter.unusedSimpArgs false

/-! ### edit_Cost: function 23 -/
mutual
def edit_Cost.l0 : Nat → List Int → List Int → Int → Int → Int → Int → List Int → Int → Int → Option (Int × Int)
  | 0, _, _, _, _, _, _, _, _, _ => none
  | k + 1, x0, x1, x2, x11, x12, x13, x26, x27, x28 => if x28 < x27 then (if 0 ≤ x28 then (if x28 < (x26.length : Int) then (if (rd x26 x28) = 1 then (edit_Cost.j1 k x0 x1 x2 x11 x12 x13 ((rd x26 x28) == 1) true true x26 x27 x28) else (edit_Cost.j1 k x0 x1 x2 x11 x12 x13 ((rd x26 x28) == 1) ((rd x26 x28) == 2) ((rd x26 x28) == 3) x26 x27 x28)) else (none)) else (none)) else (if x12 < (x0.length : Int) then (some (0, 11)) else (if x13 < (x1.length : Int) then (some (0, 11)) else (some (x11, 0))))
def edit_Cost.j1 : Nat → List Int → List Int → Int → Int → Int → Int → Bool → Bool → Bool → List Int → Int → Int → Option (Int × Int)
  | 0, _, _, _, _, _, _, _, _, _, _, _, _ => none
  | k + 1, x0, x1, x2, x11, x12, x13, x16, x17, x18, x26, x27, x28 => if x17 = true then (if x12 = (x0.length : Int) then (edit_Cost.j2 k x0 x1 x2 x11 x12 x13 x16 x17 x18 x26 x27 x28 true) else (if x18 = true then (edit_Cost.j2 k x0 x1 x2 x11 x12 x13 x16 x17 x18 x26 x27 x28 (x13 == (x1.length : Int))) else (edit_Cost.j2 k x0 x1 x2 x11 x12 x13 x16 x17 x18 x26 x27 x28 false))) else (if x18 = true then (edit_Cost.j2 k x0 x1 x2 x11 x12 x13 x16 x17 x18 x26 x27 x28 (x13 == (x1.length : Int))) else (edit_Cost.j2 k x0 x1 x2 x11 x12 x13 x16 x17 x18 x26 x27 x28 true))
def edit_Cost.j2 : Nat → List Int → List Int → Int → Int → Int → Int → Bool → Bool → Bool → List Int → Int → Int → Bool → Option (Int × Int)
  | 0, _, _, _, _, _, _, _, _, _, _, _, _, _ => none
  | k + 1, x0, x1, x2, x11, x12, x13, x16, x17, x18, x26, x27, x28, x67 => if x67 = true then (some (0, 11)) else (if x16 = true then (if 0 ≤ x12 then (if x12 < (x0.length : Int) then (if 0 ≤ x13 then (if x13 < (x1.length : Int) then ((edit_apart.f (rd x0 x12) (rd x1 x13)).bind fun t284 => (edit_Cost.j3 k x0 x1 x2 (wrap64 (x11 + t284)) x12 x13 x17 x18 x26 x27 x28)) else (none)) else (none)) else (none)) else (none)) else (if x17 = true then (if 0 ≤ x12 then (if x12 < (x0.length : Int) then ((edit_apart.f (rd x0 x12) x2).bind fun t286 => (edit_Cost.j3 k x0 x1 x2 (wrap64 (x11 + t286)) x12 x13 x17 x18 x26 x27 x28)) else (none)) else (none)) else (if 0 ≤ x13 then (if x13 < (x1.length : Int) then ((edit_apart.f (rd x1 x13) x2).bind fun t288 => (edit_Cost.j3 k x0 x1 x2 (wrap64 (x11 + t288)) x12 x13 x17 x18 x26 x27 x28)) else (none)) else (none))))
def edit_Cost.j3 : Nat → List Int → List Int → Int → Int → Int → Int → Bool → Bool → List Int → Int → Int → Option (Int × Int)
  | 0, _, _, _, _, _, _, _, _, _, _, _ => none
  | k + 1, x0, x1, x2, x11, x12, x13, x17, x18, x26, x27, x28 => if x17 = true then (if x18 = true then (edit_Cost.l0 k x0 x1 x2 x11 (wrap64 (x12 + 1)) (wrap64 (x13 + 1)) x26 x27 (wrap64 (x28 + 1))) else (edit_Cost.l0 k x0 x1 x2 x11 (wrap64 (x12 + 1)) x13 x26 x27 (wrap64 (x28 + 1)))) else (if x18 = true then (edit_Cost.l0 k x0 x1 x2 x11 x12 (wrap64 (x13 + 1)) x26 x27 (wrap64 (x28 + 1))) else (edit_Cost.l0 k x0 x1 x2 x11 x12 x13 x26 x27 (wrap64 (x28 + 1))))
end
def edit_Cost.f (k : Nat) (l0 : List Int) (l1 : List Int) (a2 : Int) (l3 : List Int) : Option (Int × Int) := (edit_check.f k l0 l1 a2).bind fun t280 => (if t280 = 0 then (edit_Cost.l0 k l0 l1 a2 0 0 0 l3 (l3.length : Int) 0) else (some (0, t280)))
theorem edit_Cost.mono_l : ∀ k, (∀ y0 y1 y2 y3 y4 y5 y6 y7 y8, LeO (edit_Cost.l0 k y0 y1 y2 y3 y4 y5 y6 y7 y8) (edit_Cost.l0 (k + 1) y0 y1 y2 y3 y4 y5 y6 y7 y8)) ∧ (∀ y0 y1 y2 y3 y4 y5 y6 y7 y8 y9 y10 y11, LeO (edit_Cost.j1 k y0 y1 y2 y3 y4 y5 y6 y7 y8 y9 y10 y11) (edit_Cost.j1 (k + 1) y0 y1 y2 y3 y4 y5 y6 y7 y8 y9 y10 y11)) ∧ (∀ y0 y1 y2 y3 y4 y5 y6 y7 y8 y9 y10 y11 y12, LeO (edit_Cost.j2 k y0 y1 y2 y3 y4 y5 y6 y7 y8 y9 y10 y11 y12) (edit_Cost.j2 (k + 1) y0 y1 y2 y3 y4 y5 y6 y7 y8 y9 y10 y11 y12)) ∧ (∀ y0 y1 y2 y3 y4 y5 y6 y7 y8 y9 y10, LeO (edit_Cost.j3 k y0 y1 y2 y3 y4 y5 y6 y7 y8 y9 y10) (edit_Cost.j3 (k + 1) y0 y1 y2 y3 y4 y5 y6 y7 y8 y9 y10))
  | 0 => ⟨fun _ _ _ _ _ _ _ _ _ r h => by simp [edit_Cost.l0] at h, fun _ _ _ _ _ _ _ _ _ _ _ _ r h => by simp [edit_Cost.j1] at h, fun _ _ _ _ _ _ _ _ _ _ _ _ _ r h => by simp [edit_Cost.j2] at h, fun _ _ _ _ _ _ _ _ _ _ _ r h => by simp [edit_Cost.j3] at h⟩
  | k + 1 => by
    obtain ⟨ih0, ih1, ih2, ih3⟩ := edit_Cost.mono_l k
    refine ⟨?_, ?_, ?_, ?_⟩
    · intro y0 y1 y2 y3 y4 y5 y6 y7 y8
      unfold edit_Cost.l0
      repeat' first
      | (with_reducible exact ih0 _ _ _ _ _ _ _ _ _)
      | (with_reducible exact ih1 _ _ _ _ _ _ _ _ _ _ _ _)
      | (with_reducible exact ih2 _ _ _ _ _ _ _ _ _ _ _ _ _)
      | (with_reducible exact ih3 _ _ _ _ _ _ _ _ _ _ _)
      | (with_reducible exact edit_check.mono _ _ _ _)
      | (with_reducible exact LeO.refl _)
      | (with_reducible exact LeO.none _)
      | (with_reducible refine LeO.ite ?_ ?_)
      | (with_reducible refine LeO.bind ?_ (fun _ => ?_))
      | exact ih0 _ _ _ _ _ _ _ _ _
      | exact ih1 _ _ _ _ _ _ _ _ _ _ _ _
      | exact ih2 _ _ _ _ _ _ _ _ _ _ _ _ _
      | exact ih3 _ _ _ _ _ _ _ _ _ _ _
      | exact edit_check.mono _ _ _ _
      | exact LeO.none _
      | refine LeO.ite ?_ ?_
      | refine LeO.bind ?_ (fun _ => ?_)
    · intro y0 y1 y2 y3 y4 y5 y6 y7 y8 y9 y10 y11
      unfold edit_Cost.j1
      repeat' first
      | (with_reducible exact ih0 _ _ _ _ _ _ _ _ _)
      | (with_reducible exact ih1 _ _ _ _ _ _ _ _ _ _ _ _)
      | (with_reducible exact ih2 _ _ _ _ _ _ _ _ _ _ _ _ _)
      | (with_reducible exact ih3 _ _ _ _ _ _ _ _ _ _ _)
      | (with_reducible exact edit_check.mono _ _ _ _)
      | (with_reducible exact LeO.refl _)
      | (with_reducible exact LeO.none _)
      | (with_reducible refine LeO.ite ?_ ?_)
      | (with_reducible refine LeO.bind ?_ (fun _ => ?_))
      | exact ih0 _ _ _ _ _ _ _ _ _
      | exact ih1 _ _ _ _ _ _ _ _ _ _ _ _
      | exact ih2 _ _ _ _ _ _ _ _ _ _ _ _ _
      | exact ih3 _ _ _ _ _ _ _ _ _ _ _
      | exact edit_check.mono _ _ _ _
      | exact LeO.none _
      | refine LeO.ite ?_ ?_
      | refine LeO.bind ?_ (fun _ => ?_)
    · intro y0 y1 y2 y3 y4 y5 y6 y7 y8 y9 y10 y11 y12
      unfold edit_Cost.j2
      repeat' first
      | (with_reducible exact ih0 _ _ _ _ _ _ _ _ _)
      | (with_reducible exact ih1 _ _ _ _ _ _ _ _ _ _ _ _)
      | (with_reducible exact ih2 _ _ _ _ _ _ _ _ _ _ _ _ _)
      | (with_reducible exact ih3 _ _ _ _ _ _ _ _ _ _ _)
      | (with_reducible exact edit_check.mono _ _ _ _)
      | (with_reducible exact LeO.refl _)
      | (with_reducible exact LeO.none _)
      | (with_reducible refine LeO.ite ?_ ?_)
      | (with_reducible refine LeO.bind ?_ (fun _ => ?_))
      | exact ih0 _ _ _ _ _ _ _ _ _
      | exact ih1 _ _ _ _ _ _ _ _ _ _ _ _
      | exact ih2 _ _ _ _ _ _ _ _ _ _ _ _ _
      | exact ih3 _ _ _ _ _ _ _ _ _ _ _
      | exact edit_check.mono _ _ _ _
      | exact LeO.none _
      | refine LeO.ite ?_ ?_
      | refine LeO.bind ?_ (fun _ => ?_)
    · intro y0 y1 y2 y3 y4 y5 y6 y7 y8 y9 y10
      unfold edit_Cost.j3
      repeat' first
      | (with_reducible exact ih0 _ _ _ _ _ _ _ _ _)
      | (with_reducible exact ih1 _ _ _ _ _ _ _ _ _ _ _ _)
      | (with_reducible exact ih2 _ _ _ _ _ _ _ _ _ _ _ _ _)
      | (with_reducible exact ih3 _ _ _ _ _ _ _ _ _ _ _)
      | (with_reducible exact edit_check.mono _ _ _ _)
      | (with_reducible exact LeO.refl _)
      | (with_reducible exact LeO.none _)
      | (with_reducible refine LeO.ite ?_ ?_)
      | (with_reducible refine LeO.bind ?_ (fun _ => ?_))
      | exact ih0 _ _ _ _ _ _ _ _ _
      | exact ih1 _ _ _ _ _ _ _ _ _ _ _ _
      | exact ih2 _ _ _ _ _ _ _ _ _ _ _ _ _
      | exact ih3 _ _ _ _ _ _ _ _ _ _ _
      | exact edit_check.mono _ _ _ _
      | exact LeO.none _
      | refine LeO.ite ?_ ?_
      | refine LeO.bind ?_ (fun _ => ?_)
theorem edit_Cost.mono : ∀ a0 a1 a2 a3 k, LeO (edit_Cost.f k a0 a1 a2 a3) (edit_Cost.f (k + 1) a0 a1 a2 a3) := by
  intro a0 a1 a2 a3 k
  obtain ⟨ih0, ih1, ih2, ih3⟩ := edit_Cost.mono_l k
  unfold edit_Cost.f
  repeat' first
      | (with_reducible exact ih0 _ _ _ _ _ _ _ _ _)
      | (with_reducible exact ih1 _ _ _ _ _ _ _ _ _ _ _ _)
      | (with_reducible exact ih2 _ _ _ _ _ _ _ _ _ _ _ _ _)
      | (with_reducible exact ih3 _ _ _ _ _ _ _ _ _ _ _)
      | (with_reducible exact edit_check.mono _ _ _ _)
      | (with_reducible exact LeO.refl _)
      | (with_reducible exact LeO.none _)
      | (with_reducible refine LeO.ite ?_ ?_)
      | (with_reducible refine LeO.bind ?_ (fun _ => ?_))
      | exact ih0 _ _ _ _ _ _ _ _ _
      | exact ih1 _ _ _ _ _ _ _ _ _ _ _ _
      | exact ih2 _ _ _ _ _ _ _ _ _ _ _ _ _
      | exact ih3 _ _ _ _ _ _ _ _ _ _ _
      | exact edit_check.mono _ _ _ _
      | exact LeO.none _
      | refine LeO.ite ?_ ?_
      | refine LeO.bind ?_ (fun _ => ?_)
def edit_Cost.T14 : Bool × List (List Nat × List Nat) := (true, [([], []), ([], []), ([], []), ([1, 2], [1, 2]), ([3], [3]), ([], []), ([], []), ([5, 6], [5, 6]), ([7], [7]), ([4, 8], [4, 8]), ([0, 9], [0, 9]), ([10, 9, 0, 1, 2, 3, 4, 5, 6, 7, 8, 9, 10], [0, 10])])
def edit_Cost.B14 : List Nat := [0, 0, 0, 6, 14, 0, 0, 96, 224, 510, 1023, 2047]
theorem edit_Cost.tab14 : rtab .any (opsOf Try.f23 14) = edit_Cost.T14 := by kernel_rfl
theorem edit_Cost.bits14 : waitsOk edit_Cost.T14.2 edit_Cost.B14 = true := by kernel_rfl
set_option maxHeartbeats 8000000 in
set_option maxRecDepth 100000 in
theorem edit_Cost.calls (k : Nat) (A0 : Option Addr) (c0 : Nat) (l0 : List Int) (A1 : Option Addr) (c1 : Nat) (l1 : List Int) (a2 : Int) (A3 : Option Addr) (c3 : Nat) (l3 : List Int) (r1 : Int) (r2 : Int) (w : World) (hr0 : Kd.C (Kd.int .i64) w A0 l0.length l0) (hc0 : l0.length ≤ c0) (hr1 : Kd.C (Kd.int .i64) w A1 l1.length l1) (hc1 : l1.length ≤ c1) (hr3 : Kd.C (Kd.int .i64) w A3 l3.length l3) (hc3 : l3.length ≤ c3) (h : edit_Cost.f k l0 l1 a2 l3 = some (r1, r2)) :
    Calls Try.prog 23 #[.slice A0 l0.length c0, .slice A1 l1.length c1, .int .i64 a2, .slice A3 l3.length c3] w fun e w' => e = .returned (.tuple #[.int .i64 r1, .int .i64 r2]) ∧ Below w.heap.size w w' := by
  have HR0 := Aside0.mk hr0
  have HC0 := Aside0.mk hc0
  clear hr0 hc0
  have HR1 := Aside0.mk hr1
  have HC1 := Aside0.mk hc1
  clear hr1 hc1
  have HR3 := Aside0.mk hr3
  have HC3 := Aside0.mk hc3
  clear hr3 hc3
  have HB := Aside0.mk (Below.refl w.heap.size w)
  have H : ((edit_check.f k l0 l1 a2).bind fun t280 => (if t280 = 0 then (edit_Cost.l0 k l0 l1 a2 0 0 0 l3 (l3.length : Int) 0) else (some (0, t280)))) = some (r1, r2) := h
  clear h
  replace H := Option.bind_eq_some_iff.mp H
  obtain ⟨t280, A50, H⟩ := H
  replace H : (if t280 = 0 then (edit_Cost.l0 k l0 l1 a2 0 0 0 l3 (l3.length : Int) 0) else (some (0, t280))) = some (r1, r2) := H
  have A5 := Aside0.mk A50
  clear A50
  by_cases c6 : t280 = 0
  · rw [if_pos c6] at H
    have c6b0 : (t280 == 0) = true := beq_iff_eq.mpr c6
    have c6b1 : (t280 != 0) = false := bne_eq_false_iff_eq.mpr c6
    clear c6
    have H' := Aside0.mk H
    clear H
    go_enter Try.func23, Try.ntmps23
    go_wp2_with (first | ((with_reducible refine gate_callee (f := 28) rfl ?_); refine goesL_ (some 22) rfl rfl Try.func28 (by kernel_rfl) rfl #[.slice A0 l0.length c0, .slice A1 l1.length c1, .int .i64 a2] rfl (by (try simp only [List.map_toArray, List.map_cons, List.map_nil]); first | done | rfl | (simp only [List.length_drop, List.length_take]; rfl)) ?_; (with_reducible refine (edit_check.calls k _ _ l0 _ _ l1 a2 t280 _ ?side1 ?side2 ?side3 ?side4 A5.out).mono ?_); (case side1 => repeat (first | exact HR0.out | (with_reducible refine Kd.C_alloc ?_ _) | (with_reducible refine Kd.C_drewN ?_ _) | (with_reducible refine Kd.C_drew ?_))); (case side2 => exact HC0.out); (case side3 => repeat (first | exact HR1.out | (with_reducible refine Kd.C_alloc ?_ _) | (with_reducible refine Kd.C_drewN ?_ _) | (with_reducible refine Kd.C_drew ?_))); (case side4 => exact HC1.out); rintro e w7 ⟨rfl, hb⟩; refine ⟨_, rfl, ?_⟩; have n0_ := Aside0.mk (below_step (by repeat (first | (with_reducible first | exact HB.out | apply below_alloc | apply pw_below_drewN | apply below_drew1) | exact HB.out)) hb); clear HB; have HB := n0_; clear n0_; (try clear hb); (try clear hb2); (try clear hk); (try clear hi)))
    go_loopg [11, 12, 13, 28] k (fun kq v11 v12 v13 v28 w' => ∃ (x11_1 : Int) (x12_1 : Int) (x13_1 : Int) (x28_1 : Int), v11 = .int .i64 x11_1 ∧ v12 = .int .i64 x12_1 ∧ v13 = .int .i64 x13_1 ∧ v28 = .int .i64 x28_1 ∧ Aside0 (edit_Cost.l0 kq l0 l1 a2 x11_1 x12_1 x13_1 l3 (l3.length : Int) x28_1 = some (r1, r2)) ∧ Aside0 (kq ≤ k) ∧ Aside0 (Below w.heap.size w w'))
    case atStart => exact ⟨(0), (0), (0), (0), (by first | rfl | (simp; done) | (simp [*]; done)), (by first | rfl | (simp; done) | (simp [*]; done)), (by first | rfl | (simp; done) | (simp [*]; done)), (by first | rfl | (simp; done) | (simp [*]; done)), H', ⟨Nat.le_refl _⟩, ⟨by repeat (first | (with_reducible first | exact HB.out | apply below_alloc | apply pw_below_drewN | apply below_drew1) | exact HB.out)⟩⟩
    case round =>
      clear H'
      try clear c1
      try clear c2
      try clear p2
      try clear c3
      try clear c6
      try clear c6b0
      try clear c6b1
      obtain ⟨x11_1, x12_1, x13_1, x28_1, rfl, rfl, rfl, rfl, HA, HK1, HB⟩ := hrel
      cases gk with
      | zero => exact absurd HA.out (by simp [edit_Cost.l0])
      | succ k1 =>
        have H := HA.out
        clear HA
        simp only [edit_Cost.l0] at H
        by_cases c8 : x28_1 < (l3.length : Int)
        · rw [if_pos c8] at H
          have c8b0 : decide (x28_1 < (l3.length : Int)) = true := decide_eq_true c8
          clear c8
          by_cases c9 : 0 ≤ x28_1
          · rw [if_pos c9] at H
            have c9b0 : decide (0 ≤ x28_1) = true := decide_eq_true c9
            clear c9
            by_cases c10 : x28_1 < (l3.length : Int)
            · rw [if_pos c10] at H
              have c10b0 : decide (x28_1 < (l3.length : Int)) = true := decide_eq_true c10
              clear c10
              have HC11 := Aside0.mk H
              clear H
              have p281 : 0 ≤ (x28_1 : Int) := of_decide_eq_true (by first | (with_reducible assumption) | assumption)
              have q281 : x28_1 < (l3.length : Int) := of_decide_eq_true (by first | (with_reducible assumption) | assumption)
              obtain ⟨ad281, e281, hx281_0⟩ := Kd.at_int HR3.out x28_1 p281 q281
              cases e281
              replace hx281_0 := (HB.out.cell (World.block_lt_of_cell? w _ hx281_0)).trans hx281_0
              replace p281 := eq_true p281
              replace q281 := eq_true q281
              go_upto_region 9 with (fail)
              go_cut [16, 17, 18] (fun v16 v17 v18 wc => ∃ (kq : Nat) (x17_10 : Bool) (x18_10 : Bool), v16 = .bool ((rd l3 x28_1) == 1) ∧ v17 = .bool x17_10 ∧ v18 = .bool x18_10 ∧ Aside0 (edit_Cost.j1 kq l0 l1 a2 x11_1 x12_1 x13_1 ((rd l3 x28_1) == 1) x17_10 x18_10 l3 (l3.length : Int) x28_1 = some (r1, r2)) ∧ Aside0 (kq ≤ k1) ∧ Aside0 (Below w.heap.size w wc))
              case first =>
                have H := HC11.out
                clear HC11
                by_cases c12 : (rd l3 x28_1) = 1
                · rw [if_pos c12] at H
                  have c12b0 : ((rd l3 x28_1) == 1) = true := beq_iff_eq.mpr c12
                  have c12b1 : ((rd l3 x28_1) != 1) = false := bne_eq_false_iff_eq.mpr c12
                  clear c12
                  (first | rw [c12b0] | (simp only [i64_w, i32_w]; rw [c12b0]) | skip)
                  have H' := Aside0.mk H
                  clear H
                  go_wp2
                  go_meet
                  case rel => exact ⟨_, (true), (true), (by first | rfl | (simp; done) | (simp [*]; done)), (by first | rfl | (simp; done) | (simp [*]; done)), (by first | rfl | (simp; done) | (simp [*]; done)), H', ⟨by have := HK1.out; first | omega | exact Nat.le_refl _⟩, ⟨by repeat (first | (with_reducible first | exact HB.out | apply below_alloc | apply pw_below_drewN | apply below_drew1) | exact HB.out)⟩⟩
                · rw [if_neg c12] at H
                  have c12b0 : ((rd l3 x28_1) == 1) = false := beq_eq_false_iff_ne.mpr c12
                  have c12b1 : ((rd l3 x28_1) != 1) = true := bne_iff_ne.mpr c12
                  (first | rw [c12b0] | (simp only [i64_w, i32_w]; rw [c12b0]) | skip)
                  have H' := Aside0.mk H
                  clear H
                  go_wp2
                  go_meet
                  case rel => exact ⟨_, (((rd l3 x28_1) == 2)), (((rd l3 x28_1) == 3)), (by first | rfl | (simp; done) | (simp [*]; done)), (by first | rfl | (simp; done) | (simp [*]; done)), (by first | rfl | (simp; done) | (simp [*]; done)), H', ⟨by have := HK1.out; first | omega | exact Nat.le_refl _⟩, ⟨by repeat (first | (with_reducible first | exact HB.out | apply below_alloc | apply pw_below_drewN | apply below_drew1) | exact HB.out)⟩⟩
              case rest =>
                clear HC11
                try clear c1
                try clear c2
                try clear p2
                try clear q2
                try clear hx2
                try clear c3
                try clear c6
                try clear c6b0
                try clear c6b1
                try clear c8
                try clear c8b0
                try clear c9
                try clear c9b0
                try clear c10
                try clear c10b0
                try clear c12
                try clear c12b0
                try clear c12b1
                try clear hx281_0
                try clear p2
                try clear p281
                try clear q281
                obtain ⟨kq, x17_10, x18_10, rfl, rfl, rfl, HA, HJ10, HB⟩ := hcut
                cases kq with
                | zero => exact absurd HA.out (by simp [edit_Cost.j1])
                | succ kj10 =>
                  have H := HA.out
                  clear HA
                  simp only [edit_Cost.j1] at H
                  have HC13 := Aside0.mk H
                  clear H
                  go_upto_region 10 with (fail)
                  go_cut [16, 67] (fun v16 v67 wc => ∃ (kq : Nat) (x67_12 : Bool), v16 = .bool ((rd l3 x28_1) == 1) ∧ v67 = .bool x67_12 ∧ Aside0 (edit_Cost.j2 kq l0 l1 a2 x11_1 x12_1 x13_1 ((rd l3 x28_1) == 1) x17_10 x18_10 l3 (l3.length : Int) x28_1 x67_12 = some (r1, r2)) ∧ Aside0 (kq ≤ kj10) ∧ Aside0 (Below w.heap.size w wc))
                  case first =>
                    have H := HC13.out
                    clear HC13
                    by_cases c14 : x17_10 = true
                    · subst c14
                      have H1 : (if x12_1 = (l0.length : Int) then (edit_Cost.j2 kj10 l0 l1 a2 x11_1 x12_1 x13_1 ((rd l3 x28_1) == 1) true x18_10 l3 (l3.length : Int) x28_1 true) else (if x18_10 = true then (edit_Cost.j2 kj10 l0 l1 a2 x11_1 x12_1 x13_1 ((rd l3 x28_1) == 1) true x18_10 l3 (l3.length : Int) x28_1 (x13_1 == (l1.length : Int))) else (edit_Cost.j2 kj10 l0 l1 a2 x11_1 x12_1 x13_1 ((rd l3 x28_1) == 1) true x18_10 l3 (l3.length : Int) x28_1 false))) = some (r1, r2) := by rw [if_pos rfl] at H; exact H
                      clear H
                      have H := H1
                      clear H1
                      by_cases c15 : x12_1 = (l0.length : Int)
                      · rw [if_pos c15] at H
                        have c15b0 : (x12_1 == (l0.length : Int)) = true := beq_iff_eq.mpr c15
                        have c15b1 : (x12_1 != (l0.length : Int)) = false := bne_eq_false_iff_eq.mpr c15
                        clear c15
                        (first | rw [c15b0] | (simp only [i64_w, i32_w]; rw [c15b0]) | skip)
                        have H' := Aside0.mk H
                        clear H
                        go_wp2
                        go_meet
                        case rel => exact ⟨_, (true), (by first | rfl | (simp; done) | (simp [*]; done)), (by first | rfl | (simp; done) | (simp [*]; done)), H', ⟨by have := HK1.out; have := HJ10.out; first | omega | exact Nat.le_refl _⟩, ⟨by repeat (first | (with_reducible first | exact HB.out | apply below_alloc | apply pw_below_drewN | apply below_drew1) | exact HB.out)⟩⟩
                      · rw [if_neg c15] at H
                        have c15b0 : (x12_1 == (l0.length : Int)) = false := beq_eq_false_iff_ne.mpr c15
                        have c15b1 : (x12_1 != (l0.length : Int)) = true := bne_iff_ne.mpr c15
                        (first | rw [c15b0] | (simp only [i64_w, i32_w]; rw [c15b0]) | skip)
                        by_cases c16 : x18_10 = true
                        · subst c16
                          have H1 : (edit_Cost.j2 kj10 l0 l1 a2 x11_1 x12_1 x13_1 ((rd l3 x28_1) == 1) true true l3 (l3.length : Int) x28_1 (x13_1 == (l1.length : Int))) = some (r1, r2) := by rw [if_pos rfl] at H; exact H
                          clear H
                          have H := H1
                          clear H1
                          have H' := Aside0.mk H
                          clear H
                          go_wp2
                          go_meet
                          case rel => exact ⟨_, ((x13_1 == (l1.length : Int))), (by first | rfl | (simp; done) | (simp [*]; done)), (by first | rfl | (simp; done) | (simp [*]; done)), H', ⟨by have := HK1.out; have := HJ10.out; first | omega | exact Nat.le_refl _⟩, ⟨by repeat (first | (with_reducible first | exact HB.out | apply below_alloc | apply pw_below_drewN | apply below_drew1) | exact HB.out)⟩⟩
                        · replace c16 := Bool.eq_false_iff.mpr c16
                          subst c16
                          have H1 : (edit_Cost.j2 kj10 l0 l1 a2 x11_1 x12_1 x13_1 ((rd l3 x28_1) == 1) true false l3 (l3.length : Int) x28_1 false) = some (r1, r2) := by rw [if_neg (show ¬ (false = true) by decide)] at H; exact H
                          clear H
                          have H := H1
                          clear H1
                          have H' := Aside0.mk H
                          clear H
                          go_wp2
                          go_meet
                          case rel => exact ⟨_, (false), (by first | rfl | (simp; done) | (simp [*]; done)), (by first | rfl | (simp; done) | (simp [*]; done)), H', ⟨by have := HK1.out; have := HJ10.out; first | omega | exact Nat.le_refl _⟩, ⟨by repeat (first | (with_reducible first | exact HB.out | apply below_alloc | apply pw_below_drewN | apply below_drew1) | exact HB.out)⟩⟩
                    · replace c14 := Bool.eq_false_iff.mpr c14
                      subst c14
                      have H1 : (if x18_10 = true then (edit_Cost.j2 kj10 l0 l1 a2 x11_1 x12_1 x13_1 ((rd l3 x28_1) == 1) false x18_10 l3 (l3.length : Int) x28_1 (x13_1 == (l1.length : Int))) else (edit_Cost.j2 kj10 l0 l1 a2 x11_1 x12_1 x13_1 ((rd l3 x28_1) == 1) false x18_10 l3 (l3.length : Int) x28_1 true)) = some (r1, r2) := by rw [if_neg (show ¬ (false = true) by decide)] at H; exact H
                      clear H
                      have H := H1
                      clear H1
                      by_cases c17 : x18_10 = true
                      · subst c17
                        have H1 : (edit_Cost.j2 kj10 l0 l1 a2 x11_1 x12_1 x13_1 ((rd l3 x28_1) == 1) false true l3 (l3.length : Int) x28_1 (x13_1 == (l1.length : Int))) = some (r1, r2) := by rw [if_pos rfl] at H; exact H
                        clear H
                        have H := H1
                        clear H1
                        have H' := Aside0.mk H
                        clear H
                        go_wp2
                        go_meet
                        case rel => exact ⟨_, ((x13_1 == (l1.length : Int))), (by first | rfl | (simp; done) | (simp [*]; done)), (by first | rfl | (simp; done) | (simp [*]; done)), H', ⟨by have := HK1.out; have := HJ10.out; first | omega | exact Nat.le_refl _⟩, ⟨by repeat (first | (with_reducible first | exact HB.out | apply below_alloc | apply pw_below_drewN | apply below_drew1) | exact HB.out)⟩⟩
                      · replace c17 := Bool.eq_false_iff.mpr c17
                        subst c17
                        have H1 : (edit_Cost.j2 kj10 l0 l1 a2 x11_1 x12_1 x13_1 ((rd l3 x28_1) == 1) false false l3 (l3.length : Int) x28_1 true) = some (r1, r2) := by rw [if_neg (show ¬ (false = true) by decide)] at H; exact H
                        clear H
                        have H := H1
                        clear H1
                        have H' := Aside0.mk H
                        clear H
                        go_wp2
                        go_meet
                        case rel => exact ⟨_, (true), (by first | rfl | (simp; done) | (simp [*]; done)), (by first | rfl | (simp; done) | (simp [*]; done)), H', ⟨by have := HK1.out; have := HJ10.out; first | omega | exact Nat.le_refl _⟩, ⟨by repeat (first | (with_reducible first | exact HB.out | apply below_alloc | apply pw_below_drewN | apply below_drew1) | exact HB.out)⟩⟩
                  case rest =>
                    clear HC13
                    try clear c1
                    try clear c2
                    try clear p2
                    try clear q2
                    try clear hx2
                    try clear c3
                    try clear c6
                    try clear c6b0
                    try clear c6b1
                    try clear c8
                    try clear c8b0
                    try clear c9
                    try clear c9b0
                    try clear c10
                    try clear c10b0
                    try clear c12
                    try clear c12b0
                    try clear c12b1
                    try clear c14
                    try clear c15
                    try clear c15b0
                    try clear c15b1
                    try clear c16
                    try clear c17
                    try clear hx281_0
                    try clear p2
                    try clear p281
                    try clear q2
                    try clear q281
                    obtain ⟨kq, x67_12, rfl, rfl, HA, HJ12, HB⟩ := hcut
                    cases kq with
                    | zero => exact absurd HA.out (by simp [edit_Cost.j2])
                    | succ kj12 =>
                      have H := HA.out
                      clear HA
                      simp only [edit_Cost.j2] at H
                      by_cases c18 : x67_12 = true
                      · subst c18
                        have H1 : (some (0, 11)) = some (r1, r2) := by rw [if_pos rfl] at H; exact H
                        clear H
                        have H := H1
                        clear H1
                        simp only [Option.some.injEq, Prod.mk.injEq] at H
                        obtain ⟨rfl, rfl⟩ := H
                        go_wp2
                        go_ret2
                        exact ⟨by first | rfl | (simp [errW_none, errW_some] <;> rfl) | (simp [*, errW_none, errW_some] <;> rfl), by repeat (first | (with_reducible first | exact HB.out | apply below_alloc | apply pw_below_drewN | apply below_drew1) | exact HB.out)⟩
                      · replace c18 := Bool.eq_false_iff.mpr c18
                        subst c18
                        have H1 : (if ((rd l3 x28_1) == 1) = true then (if 0 ≤ x12_1 then (if x12_1 < (l0.length : Int) then (if 0 ≤ x13_1 then (if x13_1 < (l1.length : Int) then ((edit_apart.f (rd l0 x12_1) (rd l1 x13_1)).bind fun t284 => (edit_Cost.j3 kj12 l0 l1 a2 (wrap64 (x11_1 + t284)) x12_1 x13_1 x17_10 x18_10 l3 (l3.length : Int) x28_1)) else (none)) else (none)) else (none)) else (none)) else (if x17_10 = true then (if 0 ≤ x12_1 then (if x12_1 < (l0.length : Int) then ((edit_apart.f (rd l0 x12_1) a2).bind fun t286 => (edit_Cost.j3 kj12 l0 l1 a2 (wrap64 (x11_1 + t286)) x12_1 x13_1 x17_10 x18_10 l3 (l3.length : Int) x28_1)) else (none)) else (none)) else (if 0 ≤ x13_1 then (if x13_1 < (l1.length : Int) then ((edit_apart.f (rd l1 x13_1) a2).bind fun t288 => (edit_Cost.j3 kj12 l0 l1 a2 (wrap64 (x11_1 + t288)) x12_1 x13_1 x17_10 x18_10 l3 (l3.length : Int) x28_1)) else (none)) else (none)))) = some (r1, r2) := by rw [if_neg (show ¬ (false = true) by decide)] at H; exact H
                        clear H
                        have H := H1
                        clear H1
                        have HC19 := Aside0.mk H
                        clear H
                        go_upto_block 2 with (fail)
                        go_cut [16, 11] (fun v16 v11 wc => ∃ (kq : Nat) (x11_18 : Int), v16 = .bool ((rd l3 x28_1) == 1) ∧ v11 = .int .i64 x11_18 ∧ Aside0 (edit_Cost.j3 kq l0 l1 a2 x11_18 x12_1 x13_1 x17_10 x18_10 l3 (l3.length : Int) x28_1 = some (r1, r2)) ∧ Aside0 (kq ≤ kj12) ∧ Aside0 (Below w.heap.size w wc))
                        case first =>
                          have H := HC19.out
                          clear HC19
                          by_cases c20 : ((rd l3 x28_1) == 1) = true
                          · rw [if_pos c20] at H
                            have c20b0 : ((rd l3 x28_1) == 1) = true := c20
                            (try (have c20b1 : decide ((rd l3 x28_1) = 1) = true := by simpa using c20))
                            (try (have c20b2 : ((rd l3 x28_1) == 1) = true := by simpa using c20))
                            clear c20
                            (first | rw [c20b0] | (simp only [i64_w, i32_w]; rw [c20b0]) | skip)
                            by_cases c21 : 0 ≤ x12_1
                            · rw [if_pos c21] at H
                              have c21b0 : decide (0 ≤ x12_1) = true := decide_eq_true c21
                              clear c21
                              by_cases c22 : x12_1 < (l0.length : Int)
                              · rw [if_pos c22] at H
                                have c22b0 : decide (x12_1 < (l0.length : Int)) = true := decide_eq_true c22
                                clear c22
                                by_cases c23 : 0 ≤ x13_1
                                · rw [if_pos c23] at H
                                  have c23b0 : decide (0 ≤ x13_1) = true := decide_eq_true c23
                                  clear c23
                                  by_cases c24 : x13_1 < (l1.length : Int)
                                  · rw [if_pos c24] at H
                                    have c24b0 : decide (x13_1 < (l1.length : Int)) = true := decide_eq_true c24
                                    clear c24
                                    replace H := Option.bind_eq_some_iff.mp H
                                    obtain ⟨t284, A250, H⟩ := H
                                    replace H : (edit_Cost.j3 kj12 l0 l1 a2 (wrap64 (x11_1 + t284)) x12_1 x13_1 x17_10 x18_10 l3 (l3.length : Int) x28_1) = some (r1, r2) := H
                                    have A25 := Aside0.mk A250
                                    clear A250
                                    have H' := Aside0.mk H
                                    clear H
                                    try go_wp2
                                    have n0_ := Aside0.mk (below_drew1 HB.out)
                                    clear HB
                                    have HB := n0_
                                    clear n0_
                                    have p282 : 0 ≤ (x12_1 : Int) := of_decide_eq_true (by first | (with_reducible assumption) | assumption)
                                    have q282 : x12_1 < (l0.length : Int) := of_decide_eq_true (by first | (with_reducible assumption) | assumption)
                                    obtain ⟨ad282, e282, hx282_0⟩ := Kd.at_int HR0.out x12_1 p282 q282
                                    have hw282_0 := hx282_0
                                    cases e282
                                    replace hx282_0 := (HB.out.cell (World.block_lt_of_cell? w _ hx282_0)).trans hx282_0
                                    replace p282 := eq_true p282
                                    replace q282 := eq_true q282
                                    have p283 : 0 ≤ (x13_1 : Int) := of_decide_eq_true (by first | (with_reducible assumption) | assumption)
                                    have q283 : x13_1 < (l1.length : Int) := of_decide_eq_true (by first | (with_reducible assumption) | assumption)
                                    obtain ⟨ad283, e283, hx283_0⟩ := Kd.at_int HR1.out x13_1 p283 q283
                                    have hw283_0 := hx283_0
                                    cases e283
                                    replace hx283_0 := (HB.out.cell (World.block_lt_of_cell? w _ hx283_0)).trans hx283_0
                                    replace p283 := eq_true p283
                                    replace q283 := eq_true q283
                                    refine start_ (n := 12) (S := fun w' => w'.cell? (ad282.add (x12_1).toNat) = some (.int .i64 (rd l0 x12_1)) ∧ w'.cell? (ad283.add (x13_1).toNat) = some (.int .i64 (rd l1 x13_1))) (ds := []) #[false, false, false, false, false, false, false, false, false, false, false, false] (by kernel_rfl) rfl rfl ⟨((HB.out.cell (World.block_lt_of_cell? w _ hw282_0)).trans hw282_0), ((HB.out.cell (World.block_lt_of_cell? w _ hw283_0)).trans hw283_0)⟩ (fun hHeld => ?_); refine with_tabW edit_Cost.tab14 edit_Cost.bits14 (fun HT_ HW_ => ?_)
                                    generalize wc.drew = w26 at HB hx282_0 hx283_0 hHeld ⊢
                                    refine pure_ (i := 0) (N := some 78) (v := ?_) (a' := ?_) #[true, false, false, false, false, false, false, false, false, false, false, false] rfl rfl (any_of HT_.out (by kernel_rfl)) (fun _ _ _ h => h) (Or.inl ⟨by rfl, ?_⟩) ?_ ?_
                                    rotate_left
                                    · intro w'
                                      go_simp
                                      with_reducible rfl
                                    rotate_left
                                    · simp only [Act.put, List.setIfInBounds_toArray, List.set_cons_zero, List.set_cons_succ, i64_w, i32_w]
                                      rfl
                                    refine pure_ (i := 1) (N := some 79) (v := ?_) (a' := ?_) #[true, true, false, false, false, false, false, false, false, false, false, false] rfl rfl (any_of HT_.out (by kernel_rfl)) (fun _ _ _ h => h) (Or.inl ⟨by rfl, ?_⟩) ?_ ?_
                                    rotate_left
                                    · intro w'
                                      go_simp
                                      with_reducible rfl
                                    rotate_left
                                    · simp only [Act.put, List.setIfInBounds_toArray, List.set_cons_zero, List.set_cons_succ, i64_w, i32_w]
                                      rfl
                                    refine pure_ (i := 2) (N := some 80) (v := ?_) (a' := ?_) #[true, true, true, false, false, false, false, false, false, false, false, false] rfl rfl (any_of HT_.out (by kernel_rfl)) (fun _ _ _ h => h) (Or.inl ⟨by rfl, ?_⟩) ?_ ?_
                                    rotate_left
                                    · intro w'
                                      go_simp
                                      with_reducible rfl
                                    rotate_left
                                    · simp only [Act.put, List.setIfInBounds_toArray, List.set_cons_zero, List.set_cons_succ, i64_w, i32_w]
                                      rfl
                                    refine pure_ (i := 3) (N := some 81) (v := ?_) (a' := ?_) #[true, true, true, true, false, false, false, false, false, false, false, false] rfl rfl (any_of HT_.out (by kernel_rfl)) (fun _ _ _ h => h) (Or.inl ⟨by rfl, ?_⟩) ?_ ?_
                                    rotate_left
                                    · intro w'
                                      go_simp
                                      with_reducible rfl
                                    rotate_left
                                    · simp only [Act.put, List.setIfInBounds_toArray, List.set_cons_zero, List.set_cons_succ, i64_w, i32_w]
                                      rfl
                                    refine pure_ (i := 5) (N := some 83) (v := ?_) (a' := ?_) #[true, true, true, true, false, true, false, false, false, false, false, false] rfl rfl (any_of HT_.out (by kernel_rfl)) (fun _ _ _ h => h) (Or.inl ⟨by rfl, ?_⟩) ?_ ?_
                                    rotate_left
                                    · intro w'
                                      go_simp
                                      with_reducible rfl
                                    rotate_left
                                    · simp only [Act.put, List.setIfInBounds_toArray, List.set_cons_zero, List.set_cons_succ, i64_w, i32_w]
                                      rfl
                                    refine pure_ (i := 6) (N := some 84) (v := ?_) (a' := ?_) #[true, true, true, true, false, true, true, false, false, false, false, false] rfl rfl (any_of HT_.out (by kernel_rfl)) (fun _ _ _ h => h) (Or.inl ⟨by rfl, ?_⟩) ?_ ?_
                                    rotate_left
                                    · intro w'
                                      go_simp
                                      with_reducible rfl
                                    rotate_left
                                    · simp only [Act.put, List.setIfInBounds_toArray, List.set_cons_zero, List.set_cons_succ, i64_w, i32_w]
                                      rfl
                                    refine pure_ (i := 7) (N := some 85) (v := ?_) (a' := ?_) #[true, true, true, true, false, true, true, true, false, false, false, false] rfl rfl (any_of HT_.out (by kernel_rfl)) (fun _ _ _ h => h) (Or.inl ⟨by rfl, ?_⟩) ?_ ?_
                                    rotate_left
                                    · intro w'
                                      go_simp
                                      with_reducible rfl
                                    rotate_left
                                    · simp only [Act.put, List.setIfInBounds_toArray, List.set_cons_zero, List.set_cons_succ, i64_w, i32_w]
                                      rfl
                                    refine take_ (i := 4) (N := some 82) (v := ?_) (a' := ?_) #[true, true, true, true, true, true, true, true, false, false, false, false] rfl rfl (take_ofW HT_.out HW_.out (by kernel_rfl)) (fun _ _ _ h => h) (Or.inl ⟨by rfl, ?_⟩) hHeld ?_ ?_
                                    rotate_left
                                    · rintro w' ⟨s0, s1⟩
                                      go_simp
                                      with_reducible rfl
                                    rotate_left
                                    · simp only [Act.put, List.setIfInBounds_toArray, List.set_cons_zero, List.set_cons_succ, i64_w, i32_w]
                                      rfl
                                    refine take_ (i := 8) (N := some 86) (v := ?_) (a' := ?_) #[true, true, true, true, true, true, true, true, true, false, false, false] rfl rfl (take_ofW HT_.out HW_.out (by kernel_rfl)) (fun _ _ _ h => h) (Or.inl ⟨by rfl, ?_⟩) hHeld ?_ ?_
                                    rotate_left
                                    · rintro w' ⟨s0, s1⟩
                                      go_simp
                                      with_reducible rfl
                                    rotate_left
                                    · simp only [Act.put, List.setIfInBounds_toArray, List.set_cons_zero, List.set_cons_succ, i64_w, i32_w]
                                      rfl
                                    refine one_ (i := 9) (N := some 87) #[true, true, true, true, true, true, true, true, true, true, false, false] rfl rfl (one_of HT_.out (by kernel_rfl)) (by decide) (fun K hK => ?_)
                                    refine goes_ Try.func35 (by kernel_rfl) rfl #[.int .i64 (rd l0 x12_1), .int .i64 (rd l1 x13_1)] (by rfl) rfl rfl (by (try simp only [List.map_toArray, List.map_cons, List.map_nil]); first | done | rfl | (simp only [List.length_drop, List.length_take]; rfl)) ?_
                                    with_reducible refine (edit_apart.calls (rd l0 x12_1) (rd l1 x13_1) t284 _ A25.out).mono ?_
                                    rintro e w27 ⟨rfl, hb⟩
                                    refine ⟨_, rfl, ?_⟩
                                    have n0_ := Aside0.mk (below_step (by repeat (first | (with_reducible first | exact HB.out | apply below_alloc | apply pw_below_drewN | apply below_drew1) | exact HB.out)) hb)
                                    clear HB
                                    have HB := n0_
                                    clear n0_
                                    (try clear hb)
                                    (try clear hb2)
                                    (try clear hk)
                                    (try clear hi)
                                    refine hK.out _ _ ⟨((HB.out.cell (World.block_lt_of_cell? w _ hw282_0)).trans hw282_0), ((HB.out.cell (World.block_lt_of_cell? w _ hw283_0)).trans hw283_0)⟩ (fun hHeld => ?_)
                                    clear hK K
                                    refine norm_ (a' := ?_) ?_ ?_
                                    rotate_left
                                    · show Act.put _ (some 87) _ = _
                                      simp only [Act.put, List.setIfInBounds_toArray, List.set_cons_zero, List.set_cons_succ, i64_w, i32_w]
                                      rfl
                                    refine pure_ (i := 10) (N := some 88) (v := ?_) (a' := ?_) #[true, true, true, true, true, true, true, true, true, true, true, false] rfl rfl (any_of HT_.out (by kernel_rfl)) (fun _ _ _ h => h) (Or.inl ⟨by rfl, ?_⟩) ?_ ?_
                                    rotate_left
                                    · intro w'
                                      go_simp
                                      with_reducible rfl
                                    rotate_left
                                    · simp only [Act.put, List.setIfInBounds_toArray, List.set_cons_zero, List.set_cons_succ, i64_w, i32_w]
                                      rfl
                                    refine pure_ (i := 11) (N := some 11) (v := ?_) (a' := ?_) #[true, true, true, true, true, true, true, true, true, true, true, true] rfl rfl (any_of HT_.out (by kernel_rfl)) (fun _ _ _ h => h) (Or.inl ⟨by rfl, ?_⟩) ?_ ?_
                                    rotate_left
                                    · intro w'
                                      go_simp
                                      with_reducible rfl
                                    rotate_left
                                    · simp only [Act.put, List.setIfInBounds_toArray, List.set_cons_zero, List.set_cons_succ, i64_w, i32_w]
                                      rfl
                                    refine done_ (done_of HT_.out (by kernel_rfl)) ?_
                                    try go_wp2
                                    go_meet
                                    case rel => exact ⟨_, (wrap64 (x11_1 + t284)), (by first | rfl | (simp; done) | (simp [*]; done)), (by first | rfl | (simp; done) | (simp [*]; done)), H', ⟨by have := HK1.out; have := HJ10.out; have := HJ12.out; first | omega | exact Nat.le_refl _⟩, ⟨by repeat (first | (with_reducible first | exact HB.out | apply below_alloc | apply pw_below_drewN | apply below_drew1) | exact HB.out)⟩⟩
                                  · rw [if_neg c24] at H
                                    exact absurd H (by simp)
                                · rw [if_neg c23] at H
                                  exact absurd H (by simp)
                              · rw [if_neg c22] at H
                                exact absurd H (by simp)
                            · rw [if_neg c21] at H
                              exact absurd H (by simp)
                          · rw [if_neg c20] at H
                            have c20b0 : ((rd l3 x28_1) == 1) = false := by simpa using c20
                            (try (have c20b1 : decide ((rd l3 x28_1) = 1) = false := by simpa using c20))
                            (try (have c20b2 : ((rd l3 x28_1) == 1) = false := by simpa using c20))
                            (try (have c20b3 : ¬ ((rd l3 x28_1) = 1) := by simpa using c20))
                            clear c20
                            (first | rw [c20b0] | (simp only [i64_w, i32_w]; rw [c20b0]) | skip)
                            by_cases c28 : x17_10 = true
                            · subst c28
                              have H1 : (if 0 ≤ x12_1 then (if x12_1 < (l0.length : Int) then ((edit_apart.f (rd l0 x12_1) a2).bind fun t286 => (edit_Cost.j3 kj12 l0 l1 a2 (wrap64 (x11_1 + t286)) x12_1 x13_1 true x18_10 l3 (l3.length : Int) x28_1)) else (none)) else (none)) = some (r1, r2) := by rw [if_pos rfl] at H; exact H
                              clear H
                              have H := H1
                              clear H1
                              by_cases c29 : 0 ≤ x12_1
                              · rw [if_pos c29] at H
                                have c29b0 : decide (0 ≤ x12_1) = true := decide_eq_true c29
                                clear c29
                                by_cases c30 : x12_1 < (l0.length : Int)
                                · rw [if_pos c30] at H
                                  have c30b0 : decide (x12_1 < (l0.length : Int)) = true := decide_eq_true c30
                                  clear c30
                                  replace H := Option.bind_eq_some_iff.mp H
                                  obtain ⟨t286, A310, H⟩ := H
                                  replace H : (edit_Cost.j3 kj12 l0 l1 a2 (wrap64 (x11_1 + t286)) x12_1 x13_1 true x18_10 l3 (l3.length : Int) x28_1) = some (r1, r2) := H
                                  have A31 := Aside0.mk A310
                                  clear A310
                                  have H' := Aside0.mk H
                                  clear H
                                  have p285 : 0 ≤ (x12_1 : Int) := of_decide_eq_true (by first | (with_reducible assumption) | assumption)
                                  have q285 : x12_1 < (l0.length : Int) := of_decide_eq_true (by first | (with_reducible assumption) | assumption)
                                  obtain ⟨ad285, e285, hx285_0⟩ := Kd.at_int HR0.out x12_1 p285 q285
                                  cases e285
                                  replace hx285_0 := (HB.out.cell (World.block_lt_of_cell? w _ hx285_0)).trans hx285_0
                                  replace p285 := eq_true p285
                                  replace q285 := eq_true q285
                                  go_wp2_with (first | ((with_reducible refine gate_callee (f := 35) rfl ?_); refine goesL_ (some 97) rfl rfl Try.func35 (by kernel_rfl) rfl #[.int .i64 (rd l0 x12_1), .int .i64 a2] rfl (by (try simp only [List.map_toArray, List.map_cons, List.map_nil]); first | done | rfl | (simp only [List.length_drop, List.length_take]; rfl)) ?_; (with_reducible refine (edit_apart.calls (rd l0 x12_1) a2 t286 _ A31.out).mono ?_); rintro e w32 ⟨rfl, hb⟩; refine ⟨_, rfl, ?_⟩; have n0_ := Aside0.mk (below_step (by repeat (first | (with_reducible first | exact HB.out | apply below_alloc | apply pw_below_drewN | apply below_drew1) | exact HB.out)) hb); clear HB; have HB := n0_; clear n0_; (try clear hb); (try clear hb2); (try clear hk); (try clear hi)))
                                  go_meet
                                  case rel => exact ⟨_, (wrap64 (x11_1 + t286)), (by first | rfl | (simp; done) | (simp [*]; done)), (by first | rfl | (simp; done) | (simp [*]; done)), H', ⟨by have := HK1.out; have := HJ10.out; have := HJ12.out; first | omega | exact Nat.le_refl _⟩, ⟨by repeat (first | (with_reducible first | exact HB.out | apply below_alloc | apply pw_below_drewN | apply below_drew1) | exact HB.out)⟩⟩
                                · rw [if_neg c30] at H
                                  exact absurd H (by simp)
                              · rw [if_neg c29] at H
                                exact absurd H (by simp)
                            · replace c28 := Bool.eq_false_iff.mpr c28
                              subst c28
                              have H1 : (if 0 ≤ x13_1 then (if x13_1 < (l1.length : Int) then ((edit_apart.f (rd l1 x13_1) a2).bind fun t288 => (edit_Cost.j3 kj12 l0 l1 a2 (wrap64 (x11_1 + t288)) x12_1 x13_1 false x18_10 l3 (l3.length : Int) x28_1)) else (none)) else (none)) = some (r1, r2) := by rw [if_neg (show ¬ (false = true) by decide)] at H; exact H
                              clear H
                              have H := H1
                              clear H1
                              by_cases c33 : 0 ≤ x13_1
                              · rw [if_pos c33] at H
                                have c33b0 : decide (0 ≤ x13_1) = true := decide_eq_true c33
                                clear c33
                                by_cases c34 : x13_1 < (l1.length : Int)
                                · rw [if_pos c34] at H
                                  have c34b0 : decide (x13_1 < (l1.length : Int)) = true := decide_eq_true c34
                                  clear c34
                                  replace H := Option.bind_eq_some_iff.mp H
                                  obtain ⟨t288, A350, H⟩ := H
                                  replace H : (edit_Cost.j3 kj12 l0 l1 a2 (wrap64 (x11_1 + t288)) x12_1 x13_1 false x18_10 l3 (l3.length : Int) x28_1) = some (r1, r2) := H
                                  have A35 := Aside0.mk A350
                                  clear A350
                                  have H' := Aside0.mk H
                                  clear H
                                  have p287 : 0 ≤ (x13_1 : Int) := of_decide_eq_true (by first | (with_reducible assumption) | assumption)
                                  have q287 : x13_1 < (l1.length : Int) := of_decide_eq_true (by first | (with_reducible assumption) | assumption)
                                  obtain ⟨ad287, e287, hx287_0⟩ := Kd.at_int HR1.out x13_1 p287 q287
                                  cases e287
                                  replace hx287_0 := (HB.out.cell (World.block_lt_of_cell? w _ hx287_0)).trans hx287_0
                                  replace p287 := eq_true p287
                                  replace q287 := eq_true q287
                                  go_wp2_with (first | ((with_reducible refine gate_callee (f := 35) rfl ?_); refine goesL_ (some 74) rfl rfl Try.func35 (by kernel_rfl) rfl #[.int .i64 (rd l1 x13_1), .int .i64 a2] rfl (by (try simp only [List.map_toArray, List.map_cons, List.map_nil]); first | done | rfl | (simp only [List.length_drop, List.length_take]; rfl)) ?_; (with_reducible refine (edit_apart.calls (rd l1 x13_1) a2 t288 _ A35.out).mono ?_); rintro e w36 ⟨rfl, hb⟩; refine ⟨_, rfl, ?_⟩; have n0_ := Aside0.mk (below_step (by repeat (first | (with_reducible first | exact HB.out | apply below_alloc | apply pw_below_drewN | apply below_drew1) | exact HB.out)) hb); clear HB; have HB := n0_; clear n0_; (try clear hb); (try clear hb2); (try clear hk); (try clear hi)))
                                  go_meet
                                  case rel => exact ⟨_, (wrap64 (x11_1 + t288)), (by first | rfl | (simp; done) | (simp [*]; done)), (by first | rfl | (simp; done) | (simp [*]; done)), H', ⟨by have := HK1.out; have := HJ10.out; have := HJ12.out; first | omega | exact Nat.le_refl _⟩, ⟨by repeat (first | (with_reducible first | exact HB.out | apply below_alloc | apply pw_below_drewN | apply below_drew1) | exact HB.out)⟩⟩
                                · rw [if_neg c34] at H
                                  exact absurd H (by simp)
                              · rw [if_neg c33] at H
                                exact absurd H (by simp)
                        case rest =>
                          clear HC19
                          try clear c1
                          try clear c2
                          try clear p2
                          try clear q2
                          try clear hx2
                          try clear c3
                          try clear c6
                          try clear c6b0
                          try clear c6b1
                          try clear p6
                          try clear c8
                          try clear c8b0
                          try clear c9
                          try clear c9b0
                          try clear c10
                          try clear c10b0
                          try clear c12
                          try clear c12b0
                          try clear c12b1
                          try clear c14
                          try clear c15
                          try clear c15b0
                          try clear c15b1
                          try clear c16
                          try clear c17
                          try clear c18
                          try clear c20
                          try clear c20b0
                          try clear c20b1
                          try clear c20b2
                          try clear c21
                          try clear c21b0
                          try clear c22
                          try clear c22b0
                          try clear c23
                          try clear c23b0
                          try clear c24
                          try clear c24b0
                          try clear c28
                          try clear p28
                          try clear q28
                          try clear hx28
                          try clear c29
                          try clear c29b0
                          try clear c30
                          try clear c30b0
                          try clear c33
                          try clear c33b0
                          try clear c34
                          try clear c34b0
                          try clear c35
                          try clear hx281_0
                          try clear hx282_0
                          try clear hx283_0
                          try clear hx285_0
                          try clear hx287_0
                          try clear p2
                          try clear p281
                          try clear p282
                          try clear p283
                          try clear p285
                          try clear p287
                          try clear q2
                          try clear q281
                          try clear q282
                          try clear q283
                          try clear q285
                          try clear q287
                          obtain ⟨kq, x11_18, rfl, rfl, HA, HJ18, HB⟩ := hcut
                          cases kq with
                          | zero => exact absurd HA.out (by simp [edit_Cost.j3])
                          | succ kj18 =>
                            have H := HA.out
                            clear HA
                            simp only [edit_Cost.j3] at H
                            by_cases c37 : x17_10 = true
                            · subst c37
                              have H1 : (if x18_10 = true then (edit_Cost.l0 kj18 l0 l1 a2 x11_18 (wrap64 (x12_1 + 1)) (wrap64 (x13_1 + 1)) l3 (l3.length : Int) (wrap64 (x28_1 + 1))) else (edit_Cost.l0 kj18 l0 l1 a2 x11_18 (wrap64 (x12_1 + 1)) x13_1 l3 (l3.length : Int) (wrap64 (x28_1 + 1)))) = some (r1, r2) := by rw [if_pos rfl] at H; exact H
                              clear H
                              have H := H1
                              clear H1
                              by_cases c38 : x18_10 = true
                              · subst c38
                                have H1 : (edit_Cost.l0 kj18 l0 l1 a2 x11_18 (wrap64 (x12_1 + 1)) (wrap64 (x13_1 + 1)) l3 (l3.length : Int) (wrap64 (x28_1 + 1))) = some (r1, r2) := by rw [if_pos rfl] at H; exact H
                                clear H
                                have H := H1
                                clear H1
                                have H' := Aside0.mk H
                                clear H
                                go_wp2
                                go_roundg kj18
                                case measure => have := HK1.out; have := HJ10.out; have := HJ12.out; have := HJ18.out; omega
                                case rel => exact ⟨(x11_18), (wrap64 (x12_1 + 1)), (wrap64 (x13_1 + 1)), (wrap64 (x28_1 + 1)), (by first | rfl | (simp; done) | (simp [*]; done)), (by first | rfl | (simp; done) | (simp [*]; done)), (by first | rfl | (simp; done) | (simp [*]; done)), (by first | rfl | (simp; done) | (simp [*]; done)), H', ⟨by have := HK1.out; have := HJ10.out; have := HJ12.out; have := HJ18.out; omega⟩, ⟨by repeat (first | (with_reducible first | exact HB.out | apply below_alloc | apply pw_below_drewN | apply below_drew1) | exact HB.out)⟩⟩
                              · replace c38 := Bool.eq_false_iff.mpr c38
                                subst c38
                                have H1 : (edit_Cost.l0 kj18 l0 l1 a2 x11_18 (wrap64 (x12_1 + 1)) x13_1 l3 (l3.length : Int) (wrap64 (x28_1 + 1))) = some (r1, r2) := by rw [if_neg (show ¬ (false = true) by decide)] at H; exact H
                                clear H
                                have H := H1
                                clear H1
                                have H' := Aside0.mk H
                                clear H
                                go_wp2
                                go_roundg kj18
                                case measure => have := HK1.out; have := HJ10.out; have := HJ12.out; have := HJ18.out; omega
                                case rel => exact ⟨(x11_18), (wrap64 (x12_1 + 1)), (x13_1), (wrap64 (x28_1 + 1)), (by first | rfl | (simp; done) | (simp [*]; done)), (by first | rfl | (simp; done) | (simp [*]; done)), (by first | rfl | (simp; done) | (simp [*]; done)), (by first | rfl | (simp; done) | (simp [*]; done)), H', ⟨by have := HK1.out; have := HJ10.out; have := HJ12.out; have := HJ18.out; omega⟩, ⟨by repeat (first | (with_reducible first | exact HB.out | apply below_alloc | apply pw_below_drewN | apply below_drew1) | exact HB.out)⟩⟩
                            · replace c37 := Bool.eq_false_iff.mpr c37
                              subst c37
                              have H1 : (if x18_10 = true then (edit_Cost.l0 kj18 l0 l1 a2 x11_18 x12_1 (wrap64 (x13_1 + 1)) l3 (l3.length : Int) (wrap64 (x28_1 + 1))) else (edit_Cost.l0 kj18 l0 l1 a2 x11_18 x12_1 x13_1 l3 (l3.length : Int) (wrap64 (x28_1 + 1)))) = some (r1, r2) := by rw [if_neg (show ¬ (false = true) by decide)] at H; exact H
                              clear H
                              have H := H1
                              clear H1
                              by_cases c39 : x18_10 = true
                              · subst c39
                                have H1 : (edit_Cost.l0 kj18 l0 l1 a2 x11_18 x12_1 (wrap64 (x13_1 + 1)) l3 (l3.length : Int) (wrap64 (x28_1 + 1))) = some (r1, r2) := by rw [if_pos rfl] at H; exact H
                                clear H
                                have H := H1
                                clear H1
                                have H' := Aside0.mk H
                                clear H
                                go_wp2
                                go_roundg kj18
                                case measure => have := HK1.out; have := HJ10.out; have := HJ12.out; have := HJ18.out; omega
                                case rel => exact ⟨(x11_18), (x12_1), (wrap64 (x13_1 + 1)), (wrap64 (x28_1 + 1)), (by first | rfl | (simp; done) | (simp [*]; done)), (by first | rfl | (simp; done) | (simp [*]; done)), (by first | rfl | (simp; done) | (simp [*]; done)), (by first | rfl | (simp; done) | (simp [*]; done)), H', ⟨by have := HK1.out; have := HJ10.out; have := HJ12.out; have := HJ18.out; omega⟩, ⟨by repeat (first | (with_reducible first | exact HB.out | apply below_alloc | apply pw_below_drewN | apply below_drew1) | exact HB.out)⟩⟩
                              · replace c39 := Bool.eq_false_iff.mpr c39
                                subst c39
                                have H1 : (edit_Cost.l0 kj18 l0 l1 a2 x11_18 x12_1 x13_1 l3 (l3.length : Int) (wrap64 (x28_1 + 1))) = some (r1, r2) := by rw [if_neg (show ¬ (false = true) by decide)] at H; exact H
                                clear H
                                have H := H1
                                clear H1
                                have H' := Aside0.mk H
                                clear H
                                go_wp2
                                go_roundg kj18
                                case measure => have := HK1.out; have := HJ10.out; have := HJ12.out; have := HJ18.out; omega
                                case rel => exact ⟨(x11_18), (x12_1), (x13_1), (wrap64 (x28_1 + 1)), (by first | rfl | (simp; done) | (simp [*]; done)), (by first | rfl | (simp; done) | (simp [*]; done)), (by first | rfl | (simp; done) | (simp [*]; done)), (by first | rfl | (simp; done) | (simp [*]; done)), H', ⟨by have := HK1.out; have := HJ10.out; have := HJ12.out; have := HJ18.out; omega⟩, ⟨by repeat (first | (with_reducible first | exact HB.out | apply below_alloc | apply pw_below_drewN | apply below_drew1) | exact HB.out)⟩⟩
            · rw [if_neg c10] at H
              exact absurd H (by simp)
          · rw [if_neg c9] at H
            exact absurd H (by simp)
        · rw [if_neg c8] at H
          have c8b0 : decide (x28_1 < (l3.length : Int)) = false := decide_eq_false c8
          clear c8
          by_cases c40 : x12_1 < (l0.length : Int)
          · rw [if_pos c40] at H
            have c40b0 : decide (x12_1 < (l0.length : Int)) = true := decide_eq_true c40
            clear c40
            simp only [Option.some.injEq, Prod.mk.injEq] at H
            obtain ⟨rfl, rfl⟩ := H
            go_wp2
            go_ret2
            exact ⟨by first | rfl | (simp [errW_none, errW_some] <;> rfl) | (simp [*, errW_none, errW_some] <;> rfl), by repeat (first | (with_reducible first | exact HB.out | apply below_alloc | apply pw_below_drewN | apply below_drew1) | exact HB.out)⟩
          · rw [if_neg c40] at H
            have c40b0 : decide (x12_1 < (l0.length : Int)) = false := decide_eq_false c40
            clear c40
            by_cases c41 : x13_1 < (l1.length : Int)
            · rw [if_pos c41] at H
              have c41b0 : decide (x13_1 < (l1.length : Int)) = true := decide_eq_true c41
              clear c41
              simp only [Option.some.injEq, Prod.mk.injEq] at H
              obtain ⟨rfl, rfl⟩ := H
              go_wp2
              go_ret2
              exact ⟨by first | rfl | (simp [errW_none, errW_some] <;> rfl) | (simp [*, errW_none, errW_some] <;> rfl), by repeat (first | (with_reducible first | exact HB.out | apply below_alloc | apply pw_below_drewN | apply below_drew1) | exact HB.out)⟩
            · rw [if_neg c41] at H
              have c41b0 : decide (x13_1 < (l1.length : Int)) = false := decide_eq_false c41
              clear c41
              simp only [Option.some.injEq, Prod.mk.injEq] at H
              obtain ⟨rfl, rfl⟩ := H
              go_wp2
              go_ret2
              exact ⟨by first | rfl | (simp [errW_none, errW_some] <;> rfl) | (simp [*, errW_none, errW_some] <;> rfl), by repeat (first | (with_reducible first | exact HB.out | apply below_alloc | apply pw_below_drewN | apply below_drew1) | exact HB.out)⟩
  · rw [if_neg c6] at H
    have c6b0 : (t280 == 0) = false := beq_eq_false_iff_ne.mpr c6
    have c6b1 : (t280 != 0) = true := bne_iff_ne.mpr c6
    simp only [Option.some.injEq, Prod.mk.injEq] at H
    obtain ⟨rfl, rfl⟩ := H
    go_enter Try.func23, Try.ntmps23
    go_wp2_with (first | ((with_reducible refine gate_callee (f := 28) rfl ?_); refine goesL_ (some 22) rfl rfl Try.func28 (by kernel_rfl) rfl #[.slice A0 l0.length c0, .slice A1 l1.length c1, .int .i64 a2] rfl (by (try simp only [List.map_toArray, List.map_cons, List.map_nil]); first | done | rfl | (simp only [List.length_drop, List.length_take]; rfl)) ?_; (with_reducible refine (edit_check.calls k _ _ l0 _ _ l1 a2 t280 _ ?side1 ?side2 ?side3 ?side4 A5.out).mono ?_); (case side1 => repeat (first | exact HR0.out | (with_reducible refine Kd.C_alloc ?_ _) | (with_reducible refine Kd.C_drewN ?_ _) | (with_reducible refine Kd.C_drew ?_))); (case side2 => exact HC0.out); (case side3 => repeat (first | exact HR1.out | (with_reducible refine Kd.C_alloc ?_ _) | (with_reducible refine Kd.C_drewN ?_ _) | (with_reducible refine Kd.C_drew ?_))); (case side4 => exact HC1.out); rintro e w42 ⟨rfl, hb⟩; refine ⟨_, rfl, ?_⟩; have n0_ := Aside0.mk (below_step (by repeat (first | (with_reducible first | exact HB.out | apply below_alloc | apply pw_below_drewN | apply below_drew1) | exact HB.out)) hb); clear HB; have HB := n0_; clear n0_; (try clear hb); (try clear hb2); (try clear hk); (try clear hi)))
    go_ret2
    exact ⟨by first | rfl | (simp [errW_none, errW_some] <;> rfl) | (simp [*, errW_none, errW_some] <;> rfl), by repeat (first | (with_reducible first | exact HB.out | apply below_alloc | apply pw_below_drewN | apply below_drew1) | exact HB.out)⟩

end Go.Proofs.Ytmmmapkobnepcaa.PEditLeast
