/- This file proves, function by function, what the Go functions that one law uses compute; most of it was printed by a program (wip/tools of this session, over the kit's print). -/
import Derived.Test.YtklghejinlhjpaaPSeriesRunsx0
import Derived.Test.YtklghejinlhjpaaPSeriesRunsx1
import Derived.Test.YtklghejinlhjpaaPSeriesRunsx2
import Derived.Test.YtklghejinlhjpaaPSeriesRunsx4
namespace Go.Proofs.Ytklghejinlhjpaa.PSeriesRuns
open Go.RowKit Go.Proofs.YtklghejinlhjpaaW.PrintWords Go.Proofs.YtklghejinlhjpaaW.PrintLast Go.Proofs.YtklghejinlhjpaaW.PrintMore
attribute [local go_sem] max2_int min2_int max_two min_two max_three min_three max_four min_four   -- for this text's walks alone
set_option linter.unusedVariables false
set_option linter.unusedSimpArgs false

/-! ### shapesearchlaw09_SeriesRuns: function 5 -/
mutual
def shapesearchlaw09_SeriesRuns.l0 : Nat → List (S43) → Int → Int → Int → Int → Int → Int → List Int → Option (Bool)
  | 0, _, _, _, _, _, _, _, _ => none
  | k + 1, x4, x5, x6, x16, x17, x255000, x255001, x255002 => if x17 < x16 then (if 0 ≤ x17 then (if x17 < (x4.length : Int) then (if ((rd_T43 x4 x17).f0) ≤ x5 then (shapesearchlaw09_SeriesRuns.j1 k x4 x6 x17 x16 x17 true x255000 x255001 x255002) else (if ((rd_T43 x4 x17).f1) < 1 then (shapesearchlaw09_SeriesRuns.j1 k x4 x6 x17 x16 x17 true x255000 x255001 x255002) else (shapesearchlaw09_SeriesRuns.j1 k x4 x6 x17 x16 x17 (decide (((rd_T43 x4 x17).f0) > (wrap64 ((x255002.length : Int) - ((rd_T43 x4 x17).f1))))) x255000 x255001 x255002))) else (none)) else (none)) else (shapesearchlaw09_SeriesRuns.l2 k x6 (x255002.length : Int) 0 x255000 x255001 x255002)
def shapesearchlaw09_SeriesRuns.j1 : Nat → List (S43) → Int → Int → Int → Int → Bool → Int → Int → List Int → Option (Bool)
  | 0, _, _, _, _, _, _, _, _, _ => none
  | k + 1, x4, x6, x7, x16, x17, x51, x255000, x255001, x255002 => if x51 = true then (some false) else (shapesearchlaw09_SeriesRuns.l1 k x4 x6 x7 0 x16 x17 x255000 x255001 x255002)
def shapesearchlaw09_SeriesRuns.l1 : Nat → List (S43) → Int → Int → Int → Int → Int → Int → Int → List Int → Option (Bool)
  | 0, _, _, _, _, _, _, _, _, _ => none
  | k + 1, x4, x6, x7, x8, x16, x17, x255000, x255001, x255002 => if 0 ≤ x7 then (if x7 < (x4.length : Int) then (if x8 < ((rd_T43 x4 x7).f1) then (if 0 ≤ (wrap64 (((rd_T43 x4 x7).f0) + x8)) then (if (wrap64 (((rd_T43 x4 x7).f0) + x8)) < (x255002.length : Int) then (if (rd x255002 (wrap64 (((rd_T43 x4 x7).f0) + x8))) = 1073741824 then (some false) else (shapesearchlaw09_SeriesRuns.l1 k x4 x6 x7 (wrap64 (x8 + 1)) x16 x17 x255000 x255001 x255002)) else (none)) else (none)) else (shapesearchlaw09_SeriesRuns.l0 k x4 (wrap64 (((rd_T43 x4 x7).f0) + ((rd_T43 x4 x7).f1))) (wrap64 (x6 + ((rd_T43 x4 x7).f1))) x16 (wrap64 (x17 + 1)) x255000 x255001 x255002)) else (none)) else (none)
def shapesearchlaw09_SeriesRuns.l2 : Nat → Int → Int → Int → Int → Int → List Int → Option (Bool)
  | 0, _, _, _, _, _, _ => none
  | k + 1, x6, x94, x95, x255000, x255001, x255002 => if x95 < x94 then (if 0 ≤ x95 then (if x95 < (x255002.length : Int) then (if (rd x255002 x95) = 1073741824 then (shapesearchlaw09_SeriesRuns.l2 k x6 x94 (wrap64 (x95 + 1)) x255000 x255001 x255002) else (shapesearchlaw09_SeriesRuns.l2 k (wrap64 (x6 - 1)) x94 (wrap64 (x95 + 1)) x255000 x255001 x255002)) else (none)) else (none)) else (if x6 = 0 then ((shapesearchlaw09_awake.f k).bind fun t269 => (some t269)) else (some false))
end
def shapesearchlaw09_SeriesRuns.f (k : Nat) (l0 : List Int) : Option (Bool) := (shapesearchkeep_New.f l0).bind fun bt245 => ((shapesearchkeep_Src_Series.f k bt245.1 bt245.2 40).bind fun bt248 => ((series_Runs.f k bt248.1 bt248.2.1 bt248.2.2.1).bind fun t255 => (shapesearchlaw09_SeriesRuns.l0 k t255 (-1) 0 (t255.length : Int) 0 bt248.1 bt248.2.1 bt248.2.2.1)))
theorem shapesearchlaw09_SeriesRuns.mono_l : ∀ k, (∀ y0 y1 y2 y3 y4 y5 y6 y7, LeO (shapesearchlaw09_SeriesRuns.l0 k y0 y1 y2 y3 y4 y5 y6 y7) (shapesearchlaw09_SeriesRuns.l0 (k + 1) y0 y1 y2 y3 y4 y5 y6 y7)) ∧ (∀ y0 y1 y2 y3 y4 y5 y6 y7 y8, LeO (shapesearchlaw09_SeriesRuns.j1 k y0 y1 y2 y3 y4 y5 y6 y7 y8) (shapesearchlaw09_SeriesRuns.j1 (k + 1) y0 y1 y2 y3 y4 y5 y6 y7 y8)) ∧ (∀ y0 y1 y2 y3 y4 y5 y6 y7 y8, LeO (shapesearchlaw09_SeriesRuns.l1 k y0 y1 y2 y3 y4 y5 y6 y7 y8) (shapesearchlaw09_SeriesRuns.l1 (k + 1) y0 y1 y2 y3 y4 y5 y6 y7 y8)) ∧ (∀ y0 y1 y2 y3 y4 y5, LeO (shapesearchlaw09_SeriesRuns.l2 k y0 y1 y2 y3 y4 y5) (shapesearchlaw09_SeriesRuns.l2 (k + 1) y0 y1 y2 y3 y4 y5))
  | 0 => ⟨fun _ _ _ _ _ _ _ _ r h => by simp [shapesearchlaw09_SeriesRuns.l0] at h, fun _ _ _ _ _ _ _ _ _ r h => by simp [shapesearchlaw09_SeriesRuns.j1] at h, fun _ _ _ _ _ _ _ _ _ r h => by simp [shapesearchlaw09_SeriesRuns.l1] at h, fun _ _ _ _ _ _ r h => by simp [shapesearchlaw09_SeriesRuns.l2] at h⟩
  | k + 1 => by
    obtain ⟨ih0, ih1, ih2, ih3⟩ := shapesearchlaw09_SeriesRuns.mono_l k
    refine ⟨?_, ?_, ?_, ?_⟩
    · intro y0 y1 y2 y3 y4 y5 y6 y7
      unfold shapesearchlaw09_SeriesRuns.l0
      repeat' first
      | (with_reducible exact ih0 _ _ _ _ _ _ _ _)
      | (with_reducible exact ih1 _ _ _ _ _ _ _ _ _)
      | (with_reducible exact ih2 _ _ _ _ _ _ _ _ _)
      | (with_reducible exact ih3 _ _ _ _ _ _)
      | (with_reducible exact series_Runs.mono _ _ _ _)
      | (with_reducible exact shapesearchkeep_Src_Series.mono _ _ _ _)
      | (with_reducible exact shapesearchlaw09_awake.mono _)
      | (with_reducible exact LeO.refl _)
      | (with_reducible exact LeO.none _)
      | (with_reducible refine LeO.ite ?_ ?_)
      | (with_reducible refine LeO.bind ?_ (fun _ => ?_))
      | exact ih0 _ _ _ _ _ _ _ _
      | exact ih1 _ _ _ _ _ _ _ _ _
      | exact ih2 _ _ _ _ _ _ _ _ _
      | exact ih3 _ _ _ _ _ _
      | exact series_Runs.mono _ _ _ _
      | exact shapesearchkeep_Src_Series.mono _ _ _ _
      | exact shapesearchlaw09_awake.mono _
      | exact LeO.none _
      | refine LeO.ite ?_ ?_
      | refine LeO.bind ?_ (fun _ => ?_)
    · intro y0 y1 y2 y3 y4 y5 y6 y7 y8
      unfold shapesearchlaw09_SeriesRuns.j1
      repeat' first
      | (with_reducible exact ih0 _ _ _ _ _ _ _ _)
      | (with_reducible exact ih1 _ _ _ _ _ _ _ _ _)
      | (with_reducible exact ih2 _ _ _ _ _ _ _ _ _)
      | (with_reducible exact ih3 _ _ _ _ _ _)
      | (with_reducible exact series_Runs.mono _ _ _ _)
      | (with_reducible exact shapesearchkeep_Src_Series.mono _ _ _ _)
      | (with_reducible exact shapesearchlaw09_awake.mono _)
      | (with_reducible exact LeO.refl _)
      | (with_reducible exact LeO.none _)
      | (with_reducible refine LeO.ite ?_ ?_)
      | (with_reducible refine LeO.bind ?_ (fun _ => ?_))
      | exact ih0 _ _ _ _ _ _ _ _
      | exact ih1 _ _ _ _ _ _ _ _ _
      | exact ih2 _ _ _ _ _ _ _ _ _
      | exact ih3 _ _ _ _ _ _
      | exact series_Runs.mono _ _ _ _
      | exact shapesearchkeep_Src_Series.mono _ _ _ _
      | exact shapesearchlaw09_awake.mono _
      | exact LeO.none _
      | refine LeO.ite ?_ ?_
      | refine LeO.bind ?_ (fun _ => ?_)
    · intro y0 y1 y2 y3 y4 y5 y6 y7 y8
      unfold shapesearchlaw09_SeriesRuns.l1
      repeat' first
      | (with_reducible exact ih0 _ _ _ _ _ _ _ _)
      | (with_reducible exact ih1 _ _ _ _ _ _ _ _ _)
      | (with_reducible exact ih2 _ _ _ _ _ _ _ _ _)
      | (with_reducible exact ih3 _ _ _ _ _ _)
      | (with_reducible exact series_Runs.mono _ _ _ _)
      | (with_reducible exact shapesearchkeep_Src_Series.mono _ _ _ _)
      | (with_reducible exact shapesearchlaw09_awake.mono _)
      | (with_reducible exact LeO.refl _)
      | (with_reducible exact LeO.none _)
      | (with_reducible refine LeO.ite ?_ ?_)
      | (with_reducible refine LeO.bind ?_ (fun _ => ?_))
      | exact ih0 _ _ _ _ _ _ _ _
      | exact ih1 _ _ _ _ _ _ _ _ _
      | exact ih2 _ _ _ _ _ _ _ _ _
      | exact ih3 _ _ _ _ _ _
      | exact series_Runs.mono _ _ _ _
      | exact shapesearchkeep_Src_Series.mono _ _ _ _
      | exact shapesearchlaw09_awake.mono _
      | exact LeO.none _
      | refine LeO.ite ?_ ?_
      | refine LeO.bind ?_ (fun _ => ?_)
    · intro y0 y1 y2 y3 y4 y5
      unfold shapesearchlaw09_SeriesRuns.l2
      repeat' first
      | (with_reducible exact ih0 _ _ _ _ _ _ _ _)
      | (with_reducible exact ih1 _ _ _ _ _ _ _ _ _)
      | (with_reducible exact ih2 _ _ _ _ _ _ _ _ _)
      | (with_reducible exact ih3 _ _ _ _ _ _)
      | (with_reducible exact series_Runs.mono _ _ _ _)
      | (with_reducible exact shapesearchkeep_Src_Series.mono _ _ _ _)
      | (with_reducible exact shapesearchlaw09_awake.mono _)
      | (with_reducible exact LeO.refl _)
      | (with_reducible exact LeO.none _)
      | (with_reducible refine LeO.ite ?_ ?_)
      | (with_reducible refine LeO.bind ?_ (fun _ => ?_))
      | exact ih0 _ _ _ _ _ _ _ _
      | exact ih1 _ _ _ _ _ _ _ _ _
      | exact ih2 _ _ _ _ _ _ _ _ _
      | exact ih3 _ _ _ _ _ _
      | exact series_Runs.mono _ _ _ _
      | exact shapesearchkeep_Src_Series.mono _ _ _ _
      | exact shapesearchlaw09_awake.mono _
      | exact LeO.none _
      | refine LeO.ite ?_ ?_
      | refine LeO.bind ?_ (fun _ => ?_)
theorem shapesearchlaw09_SeriesRuns.mono : ∀ a0 k, LeO (shapesearchlaw09_SeriesRuns.f k a0) (shapesearchlaw09_SeriesRuns.f (k + 1) a0) := by
  intro a0 k
  obtain ⟨ih0, ih1, ih2, ih3⟩ := shapesearchlaw09_SeriesRuns.mono_l k
  unfold shapesearchlaw09_SeriesRuns.f
  repeat' first
      | (with_reducible exact ih0 _ _ _ _ _ _ _ _)
      | (with_reducible exact ih1 _ _ _ _ _ _ _ _ _)
      | (with_reducible exact ih2 _ _ _ _ _ _ _ _ _)
      | (with_reducible exact ih3 _ _ _ _ _ _)
      | (with_reducible exact series_Runs.mono _ _ _ _)
      | (with_reducible exact shapesearchkeep_Src_Series.mono _ _ _ _)
      | (with_reducible exact shapesearchlaw09_awake.mono _)
      | (with_reducible exact LeO.refl _)
      | (with_reducible exact LeO.none _)
      | (with_reducible refine LeO.ite ?_ ?_)
      | (with_reducible refine LeO.bind ?_ (fun _ => ?_))
      | exact ih0 _ _ _ _ _ _ _ _
      | exact ih1 _ _ _ _ _ _ _ _ _
      | exact ih2 _ _ _ _ _ _ _ _ _
      | exact ih3 _ _ _ _ _ _
      | exact series_Runs.mono _ _ _ _
      | exact shapesearchkeep_Src_Series.mono _ _ _ _
      | exact shapesearchlaw09_awake.mono _
      | exact LeO.none _
      | refine LeO.ite ?_ ?_
      | refine LeO.bind ?_ (fun _ => ?_)
set_option maxHeartbeats 8000000 in
set_option maxRecDepth 100000 in
theorem shapesearchlaw09_SeriesRuns.calls (k : Nat) (A0 : Option Addr) (c0 : Nat) (l0 : List Int) (r : Bool) (w : World) (hr0 : Kd.C (Kd.int .i64) w A0 l0.length l0) (hc0 : l0.length ≤ c0) (h : shapesearchlaw09_SeriesRuns.f k l0 = some r) :
    Calls Try.prog 5 #[.slice A0 l0.length c0] w fun e w' => e = .returned (.bool r) ∧ Below w.heap.size w w' := by
  have hu24 := Try.underlying24
  have HR0 := Aside0.mk hr0
  have HC0 := Aside0.mk hc0
  clear hr0 hc0
  have HB := Aside0.mk (Below.refl w.heap.size w)
  have H : ((shapesearchkeep_New.f l0).bind fun bt245 => ((shapesearchkeep_Src_Series.f k bt245.1 bt245.2 40).bind fun bt248 => ((series_Runs.f k bt248.1 bt248.2.1 bt248.2.2.1).bind fun t255 => (shapesearchlaw09_SeriesRuns.l0 k t255 (-1) 0 (t255.length : Int) 0 bt248.1 bt248.2.1 bt248.2.2.1)))) = some r := h
  clear h
  replace H := Option.bind_eq_some_iff.mp H
  obtain ⟨⟨t245, t246⟩, A20, H⟩ := H
  replace H : ((shapesearchkeep_Src_Series.f k t245 t246 40).bind fun bt248 => ((series_Runs.f k bt248.1 bt248.2.1 bt248.2.2.1).bind fun t255 => (shapesearchlaw09_SeriesRuns.l0 k t255 (-1) 0 (t255.length : Int) 0 bt248.1 bt248.2.1 bt248.2.2.1))) = some r := H
  have A2 := Aside0.mk A20
  clear A20
  replace H := Option.bind_eq_some_iff.mp H
  obtain ⟨⟨t248, t249, t250, t253⟩, A30, H⟩ := H
  replace H : ((series_Runs.f k t248 t249 t250).bind fun t255 => (shapesearchlaw09_SeriesRuns.l0 k t255 (-1) 0 (t255.length : Int) 0 t248 t249 t250)) = some r := H
  have A3 := Aside0.mk A30
  clear A30
  replace H := Option.bind_eq_some_iff.mp H
  obtain ⟨t255, A40, H⟩ := H
  replace H : (shapesearchlaw09_SeriesRuns.l0 k t255 (-1) 0 (t255.length : Int) 0 t248 t249 t250) = some r := H
  have A4 := Aside0.mk A40
  clear A40
  have H' := Aside0.mk H
  clear H
  go_enter Try.func5, Try.ntmps5
  go_wp2_with (first | (go_at_call 9; (with_reducible refine (shapesearchkeep_New.calls _ _ l0 t245 t246 w _ ?side1 ?side2 ?side3 A2.out).mono ?_); (case side1 => repeat (first | (with_reducible first | exact HB.out | apply below_alloc | apply pw_below_drewN | apply below_drew1) | exact HB.out)); (case side2 => exact HR0.out); (case side3 => exact HC0.out); rintro e w5 ⟨g247, rfl, hi, hb, hb2⟩; have n0_ := Aside0.mk (hb); have n1_ := Aside0.mk (hi); clear HB; have HB := n0_; have HI247 := n1_; clear n0_ n1_; (try clear hb); (try clear hb2); (try clear hk); (try clear hi)) | (go_at_call 10; (with_reducible refine (shapesearchkeep_Src_Series.calls k g247 t245 t246 40 t248 t249 t250 t253 w _ ?side1 ?side2 A3.out).mono ?_); (case side1 => repeat (first | (with_reducible first | exact HI247.out | apply IsS57.alloc | apply IsS57.drewN | apply IsS57.drew | apply IsS57.set_1) | exact HI247.out)); (case side2 => repeat (first | (with_reducible first | exact HB.out | apply below_alloc | apply pw_below_drewN | apply below_drew1 | refine below_set ?_ (IsS57.ge HI247.out)) | exact HB.out)); rintro e w6 ⟨v251, rfl, ho0, hi, hb, hk⟩; have n0_ := Aside0.mk (Kd.R_lower ho0 (below_size (by repeat (first | (with_reducible first | exact HB.out | apply below_alloc | apply pw_below_drewN | apply below_drew1 | refine below_set ?_ (IsS57.ge HI247.out)) | exact HB.out)))); have n1_ := Aside0.mk (hb); have n2_ := Aside0.mk (hi); clear HB; clear HI247; have HO252 := n0_; have HB := n1_; have HI247 := n2_; clear n0_ n1_ n2_; (try clear hb); (try clear hb2); (try clear hk); (try clear hi); (try clear ho0)) | ((with_reducible refine gate_dst (N := 3) rfl ?_); (try (refine gate_guard (by rfl) ?_; dsimp only)); refine box_event ?hg (N := 3) ?hd (cs := #[.int .i64 0, .int .i64 0, .slice none 0 0]) (t := 24) ?hr ?_; (case hd => rfl); (case hg => rfl); (case hr => first | (go_simp; done) | (go_simp; rfl)); intro gb254 hg w7 hbox hb; have n0_ := Aside0.mk (Kd.R_below (by (with_reducible repeat (first | apply Kd.R_alloc | apply Kd.R_drewN | apply Kd.R_drew)); exact HO252.out) hb); have n1_ := Aside0.mk (IsS57.below (by repeat (first | (with_reducible first | exact HI247.out | apply IsS57.alloc | apply IsS57.drewN | apply IsS57.drew | apply IsS57.set_1) | exact HI247.out)) hb); have n2_ := Aside0.mk (below_step (by repeat (first | (with_reducible first | exact HB.out | apply below_alloc | apply pw_below_drewN | apply below_drew1 | refine below_set ?_ (IsS57.ge HI247.out)) | exact HB.out)) hb); have n3_ := Aside0.mk (hbox); have n4_ := Aside0.mk ((by rw [hg]; exact (below_size (by repeat (first | (with_reducible first | exact HB.out | apply below_alloc | apply pw_below_drewN | apply below_drew1 | refine below_set ?_ (IsS57.ge HI247.out)) | exact HB.out))) : w.heap.size ≤ gb254)); have n5_ := Aside0.mk ((by rw [hg]; exact (below_size (by repeat (first | (with_reducible first | exact HB.out | apply below_alloc | apply pw_below_drewN | apply below_drew1 | refine below_set ?_ (IsS57.ge HI247.out)) | exact HB.out))) : w.heap.size ≤ gb254)); have n6_ := Aside0.mk ((by rw [hg]; exact Nat.ne_of_lt (IsS57.lt (show IsS57 w _ g247 t245 t253 from by repeat (first | (with_reducible first | exact HI247.out | apply IsS57.alloc | apply IsS57.drewN | apply IsS57.drew | apply IsS57.set_1) | exact HI247.out))) : g247 ≠ gb254)); have n7_ := Aside0.mk ((by rw [hg]; exact Nat.ne_of_gt (IsS57.lt (show IsS57 w _ g247 t245 t253 from by repeat (first | (with_reducible first | exact HI247.out | apply IsS57.alloc | apply IsS57.drewN | apply IsS57.drew | apply IsS57.set_1) | exact HI247.out))) : gb254 ≠ g247)); clear HO252; clear HI247; clear HB; have HO252 := n0_; have HI247 := n1_; have HB := n2_; have BK254 := n3_; have GW254 := n4_; have GE254 := n5_; have NB247_254 := n6_; have NB254_247 := n7_; clear n0_ n1_ n2_ n3_ n4_ n5_ n6_ n7_; clear hb hbox hg; have hnb8 := NB254_247.out; have hnc8 := NB247_254.out; have hcz9_0 : w7.cell? ⟨gb254, 0, none⟩ = some (.int .i64 0) := (blk_cell BK254.out 0).trans rfl; have hcz9_1 : w7.cell? ⟨gb254, 1, none⟩ = some (.int .i64 0) := (blk_cell BK254.out 1).trans rfl; have hcz9_2 : w7.cell? ⟨gb254, 2, none⟩ = some (.slice none 0 0) := (blk_cell BK254.out 2).trans rfl; have hfz9_0 := blk_frozen BK254.out 0; have hfz9_1 := blk_frozen BK254.out 1; have hfz9_2 := blk_frozen BK254.out 2; obtain ⟨Ao10, co10, eo10⟩ := Kd.R_slice HO252.out; subst eo10) | (go_at_call 19; (with_reducible refine (series_Runs.calls k t248 t249 _ _ t250 t255 _ ?side1 ?side2 A4.out).mono ?_); (case side1 => refine (Kd.R_reads' (e := 3) (base := w.heap.size) (ok := fun k_ => True) (n := t250.length) (c := co10) ?_).2.2; exact (by (with_reducible repeat (first | apply Kd.R_alloc | apply Kd.R_drewN | apply Kd.R_drew)); exact (Kd.R_mono (Kd.R_far (p := ⟨gb254, 2, none⟩) (Kd.R_far (p := ⟨gb254, 1, none⟩) (Kd.R_far (p := ⟨gb254, 0, none⟩) (Kd.R_types HO252.out BK254.out (by decide)) (fun _ hk => hk.2) (.int .i64 t248)) (fun _ hk => hk.2) (.int .i64 t249)) (fun _ hk => hk.2) (.slice Ao10 t250.length co10)) (fun _ h_ => h_.1)))); (case side2 => exact (Kd.R_reads' HO252.out).2.1); rintro e w11 ⟨v256, rfl, ho0, hb⟩; have n0_ := Aside0.mk (Kd.R_below (by (with_reducible repeat (first | apply Kd.R_alloc | apply Kd.R_drewN | apply Kd.R_drew)); exact (Kd.R_mono (Kd.R_far (p := ⟨gb254, 2, none⟩) (Kd.R_far (p := ⟨gb254, 1, none⟩) (Kd.R_far (p := ⟨gb254, 0, none⟩) (Kd.R_types HO252.out BK254.out (by decide)) (fun _ hk => hk.2) (.int .i64 t248)) (fun _ hk => hk.2) (.int .i64 t249)) (fun _ hk => hk.2) (.slice Ao10 t250.length co10)) (fun _ h_ => h_.1))) hb); have n1_ := Aside0.mk (Kd.R_lower ho0 (below_size (by repeat (first | (with_reducible first | exact HB.out | apply below_alloc | apply pw_below_drewN | apply below_drew1 | refine below_set ?_ (IsS57.ge HI247.out) | refine below_set ?_ GE254.out) | exact HB.out)))); have n2_ := Aside0.mk (IsS57.below (show IsS57 w (((w7.setCell ⟨gb254, 0, none⟩ (.int .i64 t248)).setCell ⟨gb254, 1, none⟩ (.int .i64 t249)).setCell ⟨gb254, 2, none⟩ (.slice Ao10 t250.length co10)) g247 t245 t253 from by repeat (first | (with_reducible first | exact HI247.out | apply IsS57.alloc | apply IsS57.drewN | apply IsS57.drew | apply IsS57.set_1 | refine IsS57.far ?_ NB247_254.out _) | exact HI247.out)) hb); have n3_ := Aside0.mk (blk_below (g := gb254) (o := .cells #[.int .i64 t248, .int .i64 t249, .slice Ao10 t250.length co10] 24 (0, 0)) (by (with_reducible repeat (first | refine blk_drewN ?_ _ | refine blk_drew ?_ | refine blk_alloc ?_ _)); refine blk_put (cs := #[.int .i64 t248, .int .i64 t249, .slice none 0 0]) ?_ 2 _ rfl; (with_reducible repeat (first | refine blk_drewN ?_ _ | refine blk_drew ?_ | refine blk_alloc ?_ _)); refine blk_put (cs := #[.int .i64 t248, .int .i64 0, .slice none 0 0]) ?_ 1 _ rfl; (with_reducible repeat (first | refine blk_drewN ?_ _ | refine blk_drew ?_ | refine blk_alloc ?_ _)); refine blk_put (cs := #[.int .i64 0, .int .i64 0, .slice none 0 0]) ?_ 0 _ rfl; (with_reducible repeat (first | refine blk_drewN ?_ _ | refine blk_drew ?_ | refine blk_alloc ?_ _)); exact BK254.out) hb); have n4_ := Aside0.mk (below_step (by repeat (first | (with_reducible first | exact HB.out | apply below_alloc | apply pw_below_drewN | apply below_drew1 | refine below_set ?_ (IsS57.ge HI247.out) | refine below_set ?_ GE254.out) | exact HB.out)) hb); clear HO252; clear HI247; clear BK254; clear HB; have HO252 := n0_; have HO257 := n1_; have HI247 := n2_; have BK254 := n3_; have HB := n4_; clear n0_ n1_ n2_ n3_ n4_; (try clear hb); (try clear hb2); (try clear hk); (try clear hi); (try clear ho0); obtain ⟨Ao12, co12, eo12⟩ := Kd.R_slice HO257.out; subst eo12))
  repeat (go_quiet (first | (go_at_call 9; (with_reducible refine (shapesearchkeep_New.calls _ _ l0 t245 t246 w _ ?side1 ?side2 ?side3 A2.out).mono ?_); (case side1 => repeat (first | (with_reducible first | exact HB.out | apply below_alloc | apply pw_below_drewN | apply below_drew1) | exact HB.out)); (case side2 => exact HR0.out); (case side3 => exact HC0.out); rintro e w5 ⟨g247, rfl, hi, hb, hb2⟩; have n0_ := Aside0.mk (hb); have n1_ := Aside0.mk (hi); clear HB; have HB := n0_; have HI247 := n1_; clear n0_ n1_; (try clear hb); (try clear hb2); (try clear hk); (try clear hi)) | (go_at_call 10; (with_reducible refine (shapesearchkeep_Src_Series.calls k g247 t245 t246 40 t248 t249 t250 t253 w _ ?side1 ?side2 A3.out).mono ?_); (case side1 => repeat (first | (with_reducible first | exact HI247.out | apply IsS57.alloc | apply IsS57.drewN | apply IsS57.drew | apply IsS57.set_1) | exact HI247.out)); (case side2 => repeat (first | (with_reducible first | exact HB.out | apply below_alloc | apply pw_below_drewN | apply below_drew1 | refine below_set ?_ (IsS57.ge HI247.out)) | exact HB.out)); rintro e w6 ⟨v251, rfl, ho0, hi, hb, hk⟩; have n0_ := Aside0.mk (Kd.R_lower ho0 (below_size (by repeat (first | (with_reducible first | exact HB.out | apply below_alloc | apply pw_below_drewN | apply below_drew1 | refine below_set ?_ (IsS57.ge HI247.out)) | exact HB.out)))); have n1_ := Aside0.mk (hb); have n2_ := Aside0.mk (hi); clear HB; clear HI247; have HO252 := n0_; have HB := n1_; have HI247 := n2_; clear n0_ n1_ n2_; (try clear hb); (try clear hb2); (try clear hk); (try clear hi); (try clear ho0)) | ((with_reducible refine gate_dst (N := 3) rfl ?_); (try (refine gate_guard (by rfl) ?_; dsimp only)); refine box_event ?hg (N := 3) ?hd (cs := #[.int .i64 0, .int .i64 0, .slice none 0 0]) (t := 24) ?hr ?_; (case hd => rfl); (case hg => rfl); (case hr => first | (go_simp; done) | (go_simp; rfl)); intro gb254 hg w7 hbox hb; have n0_ := Aside0.mk (Kd.R_below (by (with_reducible repeat (first | apply Kd.R_alloc | apply Kd.R_drewN | apply Kd.R_drew)); exact HO252.out) hb); have n1_ := Aside0.mk (IsS57.below (by repeat (first | (with_reducible first | exact HI247.out | apply IsS57.alloc | apply IsS57.drewN | apply IsS57.drew | apply IsS57.set_1) | exact HI247.out)) hb); have n2_ := Aside0.mk (below_step (by repeat (first | (with_reducible first | exact HB.out | apply below_alloc | apply pw_below_drewN | apply below_drew1 | refine below_set ?_ (IsS57.ge HI247.out)) | exact HB.out)) hb); have n3_ := Aside0.mk (hbox); have n4_ := Aside0.mk ((by rw [hg]; exact (below_size (by repeat (first | (with_reducible first | exact HB.out | apply below_alloc | apply pw_below_drewN | apply below_drew1 | refine below_set ?_ (IsS57.ge HI247.out)) | exact HB.out))) : w.heap.size ≤ gb254)); have n5_ := Aside0.mk ((by rw [hg]; exact (below_size (by repeat (first | (with_reducible first | exact HB.out | apply below_alloc | apply pw_below_drewN | apply below_drew1 | refine below_set ?_ (IsS57.ge HI247.out)) | exact HB.out))) : w.heap.size ≤ gb254)); have n6_ := Aside0.mk ((by rw [hg]; exact Nat.ne_of_lt (IsS57.lt (show IsS57 w _ g247 t245 t253 from by repeat (first | (with_reducible first | exact HI247.out | apply IsS57.alloc | apply IsS57.drewN | apply IsS57.drew | apply IsS57.set_1) | exact HI247.out))) : g247 ≠ gb254)); have n7_ := Aside0.mk ((by rw [hg]; exact Nat.ne_of_gt (IsS57.lt (show IsS57 w _ g247 t245 t253 from by repeat (first | (with_reducible first | exact HI247.out | apply IsS57.alloc | apply IsS57.drewN | apply IsS57.drew | apply IsS57.set_1) | exact HI247.out))) : gb254 ≠ g247)); clear HO252; clear HI247; clear HB; have HO252 := n0_; have HI247 := n1_; have HB := n2_; have BK254 := n3_; have GW254 := n4_; have GE254 := n5_; have NB247_254 := n6_; have NB254_247 := n7_; clear n0_ n1_ n2_ n3_ n4_ n5_ n6_ n7_; clear hb hbox hg; have hnb8 := NB254_247.out; have hnc8 := NB247_254.out; have hcz9_0 : w7.cell? ⟨gb254, 0, none⟩ = some (.int .i64 0) := (blk_cell BK254.out 0).trans rfl; have hcz9_1 : w7.cell? ⟨gb254, 1, none⟩ = some (.int .i64 0) := (blk_cell BK254.out 1).trans rfl; have hcz9_2 : w7.cell? ⟨gb254, 2, none⟩ = some (.slice none 0 0) := (blk_cell BK254.out 2).trans rfl; have hfz9_0 := blk_frozen BK254.out 0; have hfz9_1 := blk_frozen BK254.out 1; have hfz9_2 := blk_frozen BK254.out 2; obtain ⟨Ao10, co10, eo10⟩ := Kd.R_slice HO252.out; subst eo10) | (go_at_call 19; (with_reducible refine (series_Runs.calls k t248 t249 _ _ t250 t255 _ ?side1 ?side2 A4.out).mono ?_); (case side1 => refine (Kd.R_reads' (e := 3) (base := w.heap.size) (ok := fun k_ => True) (n := t250.length) (c := co10) ?_).2.2; exact (by (with_reducible repeat (first | apply Kd.R_alloc | apply Kd.R_drewN | apply Kd.R_drew)); exact (Kd.R_mono (Kd.R_far (p := ⟨gb254, 2, none⟩) (Kd.R_far (p := ⟨gb254, 1, none⟩) (Kd.R_far (p := ⟨gb254, 0, none⟩) (Kd.R_types HO252.out BK254.out (by decide)) (fun _ hk => hk.2) (.int .i64 t248)) (fun _ hk => hk.2) (.int .i64 t249)) (fun _ hk => hk.2) (.slice Ao10 t250.length co10)) (fun _ h_ => h_.1)))); (case side2 => exact (Kd.R_reads' HO252.out).2.1); rintro e w11 ⟨v256, rfl, ho0, hb⟩; have n0_ := Aside0.mk (Kd.R_below (by (with_reducible repeat (first | apply Kd.R_alloc | apply Kd.R_drewN | apply Kd.R_drew)); exact (Kd.R_mono (Kd.R_far (p := ⟨gb254, 2, none⟩) (Kd.R_far (p := ⟨gb254, 1, none⟩) (Kd.R_far (p := ⟨gb254, 0, none⟩) (Kd.R_types HO252.out BK254.out (by decide)) (fun _ hk => hk.2) (.int .i64 t248)) (fun _ hk => hk.2) (.int .i64 t249)) (fun _ hk => hk.2) (.slice Ao10 t250.length co10)) (fun _ h_ => h_.1))) hb); have n1_ := Aside0.mk (Kd.R_lower ho0 (below_size (by repeat (first | (with_reducible first | exact HB.out | apply below_alloc | apply pw_below_drewN | apply below_drew1 | refine below_set ?_ (IsS57.ge HI247.out) | refine below_set ?_ GE254.out) | exact HB.out)))); have n2_ := Aside0.mk (IsS57.below (show IsS57 w (((w7.setCell ⟨gb254, 0, none⟩ (.int .i64 t248)).setCell ⟨gb254, 1, none⟩ (.int .i64 t249)).setCell ⟨gb254, 2, none⟩ (.slice Ao10 t250.length co10)) g247 t245 t253 from by repeat (first | (with_reducible first | exact HI247.out | apply IsS57.alloc | apply IsS57.drewN | apply IsS57.drew | apply IsS57.set_1 | refine IsS57.far ?_ NB247_254.out _) | exact HI247.out)) hb); have n3_ := Aside0.mk (blk_below (g := gb254) (o := .cells #[.int .i64 t248, .int .i64 t249, .slice Ao10 t250.length co10] 24 (0, 0)) (by (with_reducible repeat (first | refine blk_drewN ?_ _ | refine blk_drew ?_ | refine blk_alloc ?_ _)); refine blk_put (cs := #[.int .i64 t248, .int .i64 t249, .slice none 0 0]) ?_ 2 _ rfl; (with_reducible repeat (first | refine blk_drewN ?_ _ | refine blk_drew ?_ | refine blk_alloc ?_ _)); refine blk_put (cs := #[.int .i64 t248, .int .i64 0, .slice none 0 0]) ?_ 1 _ rfl; (with_reducible repeat (first | refine blk_drewN ?_ _ | refine blk_drew ?_ | refine blk_alloc ?_ _)); refine blk_put (cs := #[.int .i64 0, .int .i64 0, .slice none 0 0]) ?_ 0 _ rfl; (with_reducible repeat (first | refine blk_drewN ?_ _ | refine blk_drew ?_ | refine blk_alloc ?_ _)); exact BK254.out) hb); have n4_ := Aside0.mk (below_step (by repeat (first | (with_reducible first | exact HB.out | apply below_alloc | apply pw_below_drewN | apply below_drew1 | refine below_set ?_ (IsS57.ge HI247.out) | refine below_set ?_ GE254.out) | exact HB.out)) hb); clear HO252; clear HI247; clear BK254; clear HB; have HO252 := n0_; have HO257 := n1_; have HI247 := n2_; have BK254 := n3_; have HB := n4_; clear n0_ n1_ n2_ n3_ n4_; (try clear hb); (try clear hb2); (try clear hk); (try clear hi); (try clear ho0); obtain ⟨Ao12, co12, eo12⟩ := Kd.R_slice HO257.out; subst eo12)); try go_wp2_with (first | (go_at_call 9; (with_reducible refine (shapesearchkeep_New.calls _ _ l0 t245 t246 w _ ?side1 ?side2 ?side3 A2.out).mono ?_); (case side1 => repeat (first | (with_reducible first | exact HB.out | apply below_alloc | apply pw_below_drewN | apply below_drew1) | exact HB.out)); (case side2 => exact HR0.out); (case side3 => exact HC0.out); rintro e w5 ⟨g247, rfl, hi, hb, hb2⟩; have n0_ := Aside0.mk (hb); have n1_ := Aside0.mk (hi); clear HB; have HB := n0_; have HI247 := n1_; clear n0_ n1_; (try clear hb); (try clear hb2); (try clear hk); (try clear hi)) | (go_at_call 10; (with_reducible refine (shapesearchkeep_Src_Series.calls k g247 t245 t246 40 t248 t249 t250 t253 w _ ?side1 ?side2 A3.out).mono ?_); (case side1 => repeat (first | (with_reducible first | exact HI247.out | apply IsS57.alloc | apply IsS57.drewN | apply IsS57.drew | apply IsS57.set_1) | exact HI247.out)); (case side2 => repeat (first | (with_reducible first | exact HB.out | apply below_alloc | apply pw_below_drewN | apply below_drew1 | refine below_set ?_ (IsS57.ge HI247.out)) | exact HB.out)); rintro e w6 ⟨v251, rfl, ho0, hi, hb, hk⟩; have n0_ := Aside0.mk (Kd.R_lower ho0 (below_size (by repeat (first | (with_reducible first | exact HB.out | apply below_alloc | apply pw_below_drewN | apply below_drew1 | refine below_set ?_ (IsS57.ge HI247.out)) | exact HB.out)))); have n1_ := Aside0.mk (hb); have n2_ := Aside0.mk (hi); clear HB; clear HI247; have HO252 := n0_; have HB := n1_; have HI247 := n2_; clear n0_ n1_ n2_; (try clear hb); (try clear hb2); (try clear hk); (try clear hi); (try clear ho0)) | ((with_reducible refine gate_dst (N := 3) rfl ?_); (try (refine gate_guard (by rfl) ?_; dsimp only)); refine box_event ?hg (N := 3) ?hd (cs := #[.int .i64 0, .int .i64 0, .slice none 0 0]) (t := 24) ?hr ?_; (case hd => rfl); (case hg => rfl); (case hr => first | (go_simp; done) | (go_simp; rfl)); intro gb254 hg w7 hbox hb; have n0_ := Aside0.mk (Kd.R_below (by (with_reducible repeat (first | apply Kd.R_alloc | apply Kd.R_drewN | apply Kd.R_drew)); exact HO252.out) hb); have n1_ := Aside0.mk (IsS57.below (by repeat (first | (with_reducible first | exact HI247.out | apply IsS57.alloc | apply IsS57.drewN | apply IsS57.drew | apply IsS57.set_1) | exact HI247.out)) hb); have n2_ := Aside0.mk (below_step (by repeat (first | (with_reducible first | exact HB.out | apply below_alloc | apply pw_below_drewN | apply below_drew1 | refine below_set ?_ (IsS57.ge HI247.out)) | exact HB.out)) hb); have n3_ := Aside0.mk (hbox); have n4_ := Aside0.mk ((by rw [hg]; exact (below_size (by repeat (first | (with_reducible first | exact HB.out | apply below_alloc | apply pw_below_drewN | apply below_drew1 | refine below_set ?_ (IsS57.ge HI247.out)) | exact HB.out))) : w.heap.size ≤ gb254)); have n5_ := Aside0.mk ((by rw [hg]; exact (below_size (by repeat (first | (with_reducible first | exact HB.out | apply below_alloc | apply pw_below_drewN | apply below_drew1 | refine below_set ?_ (IsS57.ge HI247.out)) | exact HB.out))) : w.heap.size ≤ gb254)); have n6_ := Aside0.mk ((by rw [hg]; exact Nat.ne_of_lt (IsS57.lt (show IsS57 w _ g247 t245 t253 from by repeat (first | (with_reducible first | exact HI247.out | apply IsS57.alloc | apply IsS57.drewN | apply IsS57.drew | apply IsS57.set_1) | exact HI247.out))) : g247 ≠ gb254)); have n7_ := Aside0.mk ((by rw [hg]; exact Nat.ne_of_gt (IsS57.lt (show IsS57 w _ g247 t245 t253 from by repeat (first | (with_reducible first | exact HI247.out | apply IsS57.alloc | apply IsS57.drewN | apply IsS57.drew | apply IsS57.set_1) | exact HI247.out))) : gb254 ≠ g247)); clear HO252; clear HI247; clear HB; have HO252 := n0_; have HI247 := n1_; have HB := n2_; have BK254 := n3_; have GW254 := n4_; have GE254 := n5_; have NB247_254 := n6_; have NB254_247 := n7_; clear n0_ n1_ n2_ n3_ n4_ n5_ n6_ n7_; clear hb hbox hg; have hnb8 := NB254_247.out; have hnc8 := NB247_254.out; have hcz9_0 : w7.cell? ⟨gb254, 0, none⟩ = some (.int .i64 0) := (blk_cell BK254.out 0).trans rfl; have hcz9_1 : w7.cell? ⟨gb254, 1, none⟩ = some (.int .i64 0) := (blk_cell BK254.out 1).trans rfl; have hcz9_2 : w7.cell? ⟨gb254, 2, none⟩ = some (.slice none 0 0) := (blk_cell BK254.out 2).trans rfl; have hfz9_0 := blk_frozen BK254.out 0; have hfz9_1 := blk_frozen BK254.out 1; have hfz9_2 := blk_frozen BK254.out 2; obtain ⟨Ao10, co10, eo10⟩ := Kd.R_slice HO252.out; subst eo10) | (go_at_call 19; (with_reducible refine (series_Runs.calls k t248 t249 _ _ t250 t255 _ ?side1 ?side2 A4.out).mono ?_); (case side1 => refine (Kd.R_reads' (e := 3) (base := w.heap.size) (ok := fun k_ => True) (n := t250.length) (c := co10) ?_).2.2; exact (by (with_reducible repeat (first | apply Kd.R_alloc | apply Kd.R_drewN | apply Kd.R_drew)); exact (Kd.R_mono (Kd.R_far (p := ⟨gb254, 2, none⟩) (Kd.R_far (p := ⟨gb254, 1, none⟩) (Kd.R_far (p := ⟨gb254, 0, none⟩) (Kd.R_types HO252.out BK254.out (by decide)) (fun _ hk => hk.2) (.int .i64 t248)) (fun _ hk => hk.2) (.int .i64 t249)) (fun _ hk => hk.2) (.slice Ao10 t250.length co10)) (fun _ h_ => h_.1)))); (case side2 => exact (Kd.R_reads' HO252.out).2.1); rintro e w11 ⟨v256, rfl, ho0, hb⟩; have n0_ := Aside0.mk (Kd.R_below (by (with_reducible repeat (first | apply Kd.R_alloc | apply Kd.R_drewN | apply Kd.R_drew)); exact (Kd.R_mono (Kd.R_far (p := ⟨gb254, 2, none⟩) (Kd.R_far (p := ⟨gb254, 1, none⟩) (Kd.R_far (p := ⟨gb254, 0, none⟩) (Kd.R_types HO252.out BK254.out (by decide)) (fun _ hk => hk.2) (.int .i64 t248)) (fun _ hk => hk.2) (.int .i64 t249)) (fun _ hk => hk.2) (.slice Ao10 t250.length co10)) (fun _ h_ => h_.1))) hb); have n1_ := Aside0.mk (Kd.R_lower ho0 (below_size (by repeat (first | (with_reducible first | exact HB.out | apply below_alloc | apply pw_below_drewN | apply below_drew1 | refine below_set ?_ (IsS57.ge HI247.out) | refine below_set ?_ GE254.out) | exact HB.out)))); have n2_ := Aside0.mk (IsS57.below (show IsS57 w (((w7.setCell ⟨gb254, 0, none⟩ (.int .i64 t248)).setCell ⟨gb254, 1, none⟩ (.int .i64 t249)).setCell ⟨gb254, 2, none⟩ (.slice Ao10 t250.length co10)) g247 t245 t253 from by repeat (first | (with_reducible first | exact HI247.out | apply IsS57.alloc | apply IsS57.drewN | apply IsS57.drew | apply IsS57.set_1 | refine IsS57.far ?_ NB247_254.out _) | exact HI247.out)) hb); have n3_ := Aside0.mk (blk_below (g := gb254) (o := .cells #[.int .i64 t248, .int .i64 t249, .slice Ao10 t250.length co10] 24 (0, 0)) (by (with_reducible repeat (first | refine blk_drewN ?_ _ | refine blk_drew ?_ | refine blk_alloc ?_ _)); refine blk_put (cs := #[.int .i64 t248, .int .i64 t249, .slice none 0 0]) ?_ 2 _ rfl; (with_reducible repeat (first | refine blk_drewN ?_ _ | refine blk_drew ?_ | refine blk_alloc ?_ _)); refine blk_put (cs := #[.int .i64 t248, .int .i64 0, .slice none 0 0]) ?_ 1 _ rfl; (with_reducible repeat (first | refine blk_drewN ?_ _ | refine blk_drew ?_ | refine blk_alloc ?_ _)); refine blk_put (cs := #[.int .i64 0, .int .i64 0, .slice none 0 0]) ?_ 0 _ rfl; (with_reducible repeat (first | refine blk_drewN ?_ _ | refine blk_drew ?_ | refine blk_alloc ?_ _)); exact BK254.out) hb); have n4_ := Aside0.mk (below_step (by repeat (first | (with_reducible first | exact HB.out | apply below_alloc | apply pw_below_drewN | apply below_drew1 | refine below_set ?_ (IsS57.ge HI247.out) | refine below_set ?_ GE254.out) | exact HB.out)) hb); clear HO252; clear HI247; clear BK254; clear HB; have HO252 := n0_; have HO257 := n1_; have HI247 := n2_; have BK254 := n3_; have HB := n4_; clear n0_ n1_ n2_ n3_ n4_; (try clear hb); (try clear hb2); (try clear hk); (try clear hi); (try clear ho0); obtain ⟨Ao12, co12, eo12⟩ := Kd.R_slice HO257.out; subst eo12)))
  go_loopg [5, 6, 17] k (fun kq v5 v6 v17 w' => ∃ (x5_1 : Int) (x6_1 : Int) (x17_1 : Int), v5 = .int .i64 x5_1 ∧ v6 = .int .i64 x6_1 ∧ v17 = .int .i64 x17_1 ∧ Aside0 (shapesearchlaw09_SeriesRuns.l0 kq t255 x5_1 x6_1 (t255.length : Int) x17_1 t248 t249 t250 = some r) ∧ Aside0 (kq ≤ k) ∧ Aside0 (Kd.R k43 43 w' w.heap.size (fun _ => True) (.slice Ao12 t255.length co12) t255) ∧ Aside0 (Kd.R (Kd.int .i64) 3 w' w.heap.size (fun _ => True) (.slice Ao10 t250.length co10) t250) ∧ Aside0 (w'.heap[gb254]? = some (.cells #[.int .i64 t248, .int .i64 t249, (.slice Ao10 t250.length co10)] 24 (0, 0))) ∧ Aside0 (Below w.heap.size w w'))
  case atStart => exact ⟨((-1)), (0), (0), (by first | rfl | (simp; done) | (simp [*]; done)), (by first | rfl | (simp; done) | (simp [*]; done)), (by first | rfl | (simp; done) | (simp [*]; done)), H', ⟨Nat.le_refl _⟩, ⟨by (with_reducible repeat (first | apply Kd.R_alloc | apply Kd.R_drewN | apply Kd.R_drew)); exact HO257.out⟩, ⟨by (with_reducible repeat (first | apply Kd.R_alloc | apply Kd.R_drewN | apply Kd.R_drew)); exact HO252.out⟩, ⟨by (with_reducible repeat (first | refine blk_drewN ?_ _ | refine blk_drew ?_ | refine blk_alloc ?_ _)); exact BK254.out⟩, ⟨by repeat (first | (with_reducible first | exact HB.out | apply below_alloc | apply pw_below_drewN | apply below_drew1 | refine below_set ?_ (IsS57.ge HI247.out) | refine below_set ?_ GE254.out) | exact HB.out)⟩⟩
  case round =>
    clear H'
    try clear p2
    try clear c5
    try clear c8
    try clear hcz9_0
    try clear hcz9_1
    try clear hcz9_2
    try clear hfz9_0
    try clear hfz9_1
    try clear hfz9_2
    obtain ⟨x5_1, x6_1, x17_1, rfl, rfl, rfl, HA, HK1, HO_4, HO_255002, BK254, HB⟩ := hrel
    cases gk with
    | zero => exact absurd HA.out (by simp [shapesearchlaw09_SeriesRuns.l0])
    | succ k1 =>
      have H := HA.out
      clear HA
      simp only [shapesearchlaw09_SeriesRuns.l0] at H
      by_cases c13 : x17_1 < (t255.length : Int)
      · rw [if_pos c13] at H
        have c13b0 : decide (x17_1 < (t255.length : Int)) = true := decide_eq_true c13
        clear c13
        have HC14 := Aside0.mk H
        clear H
        go_upto_region 8 with (fail)
        repeat (go_quiet (fail); go_upto_region 8 with (fail))
        go_cut [51] (fun v51 wc => ∃ (kq : Nat) (x51_13 : Bool), v51 = .bool x51_13 ∧ Aside0 (shapesearchlaw09_SeriesRuns.j1 kq t255 x6_1 x17_1 (t255.length : Int) x17_1 x51_13 t248 t249 t250 = some r) ∧ Aside0 (kq ≤ k1) ∧ Aside0 (Kd.R k43 43 wc w.heap.size (fun _ => True) (.slice Ao12 t255.length co12) t255) ∧ Aside0 (Kd.R (Kd.int .i64) 3 wc w.heap.size (fun _ => True) (.slice Ao10 t250.length co10) t250) ∧ Aside0 (wc.heap[gb254]? = some (.cells #[.int .i64 t248, .int .i64 t249, (.slice Ao10 t250.length co10)] 24 (0, 0))) ∧ Aside0 (Below w.heap.size w wc))
        case first =>
          have H := HC14.out
          clear HC14
          by_cases c15 : 0 ≤ x17_1
          · rw [if_pos c15] at H
            have c15b0 : decide (0 ≤ x17_1) = true := decide_eq_true c15
            clear c15
            (first | rw [c15b0] | (simp only [i64_w, i32_w]; rw [c15b0]) | skip)
            by_cases c16 : x17_1 < (t255.length : Int)
            · rw [if_pos c16] at H
              have c16b0 : decide (x17_1 < (t255.length : Int)) = true := decide_eq_true c16
              clear c16
              by_cases c17 : ((rd_T43 t255 x17_1).f0) ≤ x5_1
              · rw [if_pos c17] at H
                have c17b0 : decide (((rd_T43 t255 x17_1).f0) ≤ x5_1) = true := decide_eq_true c17
                clear c17
                have H' := Aside0.mk H
                clear H
                have p258 : 0 ≤ (x17_1 : Int) := of_decide_eq_true (by first | (with_reducible assumption) | assumption)
                have q258 : x17_1 < (t255.length : Int) := of_decide_eq_true (by first | (with_reducible assumption) | assumption)
                obtain ⟨ad258, e258, hx258_0, hx258_1⟩ := at_T43 (Kd.R_reads' HO_4.out).2.2 x17_1 p258 q258
                cases e258
                replace p258 := eq_true p258
                replace q258 := eq_true q258
                go_wp2
                repeat (go_quiet (fail); try go_wp2)
                go_meet
                case rel => exact ⟨_, (true), (by first | rfl | (simp; done) | (simp [*]; done)), H', ⟨by have := HK1.out; first | omega | exact Nat.le_refl _⟩, ⟨by (with_reducible repeat (first | apply Kd.R_alloc | apply Kd.R_drewN | apply Kd.R_drew)); exact HO_4.out⟩, ⟨by (with_reducible repeat (first | apply Kd.R_alloc | apply Kd.R_drewN | apply Kd.R_drew)); exact HO_255002.out⟩, ⟨by (with_reducible repeat (first | refine blk_drewN ?_ _ | refine blk_drew ?_ | refine blk_alloc ?_ _)); exact BK254.out⟩, ⟨by repeat (first | (with_reducible first | exact HB.out | apply below_alloc | apply pw_below_drewN | apply below_drew1 | refine below_set ?_ GE254.out) | exact HB.out)⟩⟩
              · rw [if_neg c17] at H
                have c17b0 : decide (((rd_T43 t255 x17_1).f0) ≤ x5_1) = false := decide_eq_false c17
                clear c17
                by_cases c18 : ((rd_T43 t255 x17_1).f1) < 1
                · rw [if_pos c18] at H
                  have c18b0 : decide (((rd_T43 t255 x17_1).f1) < 1) = true := decide_eq_true c18
                  clear c18
                  have H' := Aside0.mk H
                  clear H
                  have p258 : 0 ≤ (x17_1 : Int) := of_decide_eq_true (by first | (with_reducible assumption) | assumption)
                  have q258 : x17_1 < (t255.length : Int) := of_decide_eq_true (by first | (with_reducible assumption) | assumption)
                  obtain ⟨ad258, e258, hx258_0, hx258_1⟩ := at_T43 (Kd.R_reads' HO_4.out).2.2 x17_1 p258 q258
                  cases e258
                  replace p258 := eq_true p258
                  replace q258 := eq_true q258
                  have p259 : 0 ≤ (x17_1 : Int) := of_decide_eq_true (by first | (with_reducible assumption) | assumption)
                  have q259 : x17_1 < (t255.length : Int) := of_decide_eq_true (by first | (with_reducible assumption) | assumption)
                  obtain ⟨ad259, e259, hx259_0, hx259_1⟩ := at_T43 (Kd.R_reads' HO_4.out).2.2 x17_1 p259 q259
                  obtain rfl : ad258 = ad259 := (by injection e259)
                  replace p259 := eq_true p259
                  replace q259 := eq_true q259
                  go_wp2
                  repeat (go_quiet (fail); try go_wp2)
                  go_meet
                  case rel => exact ⟨_, (true), (by first | rfl | (simp; done) | (simp [*]; done)), H', ⟨by have := HK1.out; first | omega | exact Nat.le_refl _⟩, ⟨by (with_reducible repeat (first | apply Kd.R_alloc | apply Kd.R_drewN | apply Kd.R_drew)); exact HO_4.out⟩, ⟨by (with_reducible repeat (first | apply Kd.R_alloc | apply Kd.R_drewN | apply Kd.R_drew)); exact HO_255002.out⟩, ⟨by (with_reducible repeat (first | refine blk_drewN ?_ _ | refine blk_drew ?_ | refine blk_alloc ?_ _)); exact BK254.out⟩, ⟨by repeat (first | (with_reducible first | exact HB.out | apply below_alloc | apply pw_below_drewN | apply below_drew1 | refine below_set ?_ GE254.out) | exact HB.out)⟩⟩
                · rw [if_neg c18] at H
                  have c18b0 : decide (((rd_T43 t255 x17_1).f1) < 1) = false := decide_eq_false c18
                  clear c18
                  have H' := Aside0.mk H
                  clear H
                  have p258 : 0 ≤ (x17_1 : Int) := of_decide_eq_true (by first | (with_reducible assumption) | assumption)
                  have q258 : x17_1 < (t255.length : Int) := of_decide_eq_true (by first | (with_reducible assumption) | assumption)
                  obtain ⟨ad258, e258, hx258_0, hx258_1⟩ := at_T43 (Kd.R_reads' HO_4.out).2.2 x17_1 p258 q258
                  cases e258
                  replace p258 := eq_true p258
                  replace q258 := eq_true q258
                  have p259 : 0 ≤ (x17_1 : Int) := of_decide_eq_true (by first | (with_reducible assumption) | assumption)
                  have q259 : x17_1 < (t255.length : Int) := of_decide_eq_true (by first | (with_reducible assumption) | assumption)
                  obtain ⟨ad259, e259, hx259_0, hx259_1⟩ := at_T43 (Kd.R_reads' HO_4.out).2.2 x17_1 p259 q259
                  obtain rfl : ad258 = ad259 := (by injection e259)
                  replace p259 := eq_true p259
                  replace q259 := eq_true q259
                  have p260 : 0 ≤ (x17_1 : Int) := of_decide_eq_true (by first | (with_reducible assumption) | assumption)
                  have q260 : x17_1 < (t255.length : Int) := of_decide_eq_true (by first | (with_reducible assumption) | assumption)
                  obtain ⟨ad260, e260, hx260_0, hx260_1⟩ := at_T43 (Kd.R_reads' HO_4.out).2.2 x17_1 p260 q260
                  obtain rfl : ad258 = ad260 := (by injection e260)
                  replace p260 := eq_true p260
                  replace q260 := eq_true q260
                  have hcz19_0 : wr.cell? ⟨gb254, 0, none⟩ = some (.int .i64 t248) := (blk_cell BK254.out 0).trans rfl
                  have hcz19_1 : wr.cell? ⟨gb254, 1, none⟩ = some (.int .i64 t249) := (blk_cell BK254.out 1).trans rfl
                  have hcz19_2 : wr.cell? ⟨gb254, 2, none⟩ = some (.slice Ao10 t250.length co10) := (blk_cell BK254.out 2).trans rfl
                  have hfz19_0 := blk_frozen BK254.out 0
                  have hfz19_1 := blk_frozen BK254.out 1
                  have hfz19_2 := blk_frozen BK254.out 2
                  have p261 : 0 ≤ (x17_1 : Int) := of_decide_eq_true (by first | (with_reducible assumption) | assumption)
                  have q261 : x17_1 < (t255.length : Int) := of_decide_eq_true (by first | (with_reducible assumption) | assumption)
                  obtain ⟨ad261, e261, hx261_0, hx261_1⟩ := at_T43 (Kd.R_reads' HO_4.out).2.2 x17_1 p261 q261
                  obtain rfl : ad258 = ad261 := (by injection e261)
                  replace p261 := eq_true p261
                  replace q261 := eq_true q261
                  go_wp2
                  repeat (go_quiet (fail); try go_wp2)
                  go_meet
                  case rel => exact ⟨_, (decide (((rd_T43 t255 x17_1).f0) > (wrap64 ((t250.length : Int) - ((rd_T43 t255 x17_1).f1))))), (by first | rfl | (simp; done) | (simp [*]; done)), H', ⟨by have := HK1.out; first | omega | exact Nat.le_refl _⟩, ⟨by (with_reducible repeat (first | apply Kd.R_alloc | apply Kd.R_drewN | apply Kd.R_drew)); exact HO_4.out⟩, ⟨by (with_reducible repeat (first | apply Kd.R_alloc | apply Kd.R_drewN | apply Kd.R_drew)); exact HO_255002.out⟩, ⟨by (with_reducible repeat (first | refine blk_drewN ?_ _ | refine blk_drew ?_ | refine blk_alloc ?_ _)); exact BK254.out⟩, ⟨by repeat (first | (with_reducible first | exact HB.out | apply below_alloc | apply pw_below_drewN | apply below_drew1 | refine below_set ?_ GE254.out) | exact HB.out)⟩⟩
            · rw [if_neg c16] at H
              exact absurd H (by simp)
          · rw [if_neg c15] at H
            exact absurd H (by simp)
        case rest =>
          clear HC14
          try clear c1
          try clear p2
          try clear q2
          try clear hx2
          try clear c5
          try clear p6
          try clear c8
          try clear c13
          try clear c13b0
          try clear c15
          try clear c15b0
          try clear c16
          try clear c16b0
          try clear c17
          try clear c17b0
          try clear c18
          try clear c18b0
          try clear hcz19_0
          try clear hcz19_1
          try clear hcz19_2
          try clear hcz9_0
          try clear hcz9_1
          try clear hcz9_2
          try clear hfz19_0
          try clear hfz19_1
          try clear hfz19_2
          try clear hfz9_0
          try clear hfz9_1
          try clear hfz9_2
          try clear hx258_0
          try clear hx258_1
          try clear hx259_0
          try clear hx259_1
          try clear hx260_0
          try clear hx260_1
          try clear hx261_0
          try clear hx261_1
          try clear p2
          try clear p258
          try clear p259
          try clear p260
          try clear p261
          try clear q258
          try clear q259
          try clear q260
          try clear q261
          obtain ⟨kq, x51_13, rfl, HA, HJ13, HO_4, HO_255002, BK254, HB⟩ := hcut
          cases kq with
          | zero => exact absurd HA.out (by simp [shapesearchlaw09_SeriesRuns.j1])
          | succ kj13 =>
            have H := HA.out
            clear HA
            simp only [shapesearchlaw09_SeriesRuns.j1] at H
            by_cases c20 : x51_13 = true
            · subst c20
              have H1 : (some false) = some r := by rw [if_pos rfl] at H; exact H
              clear H
              have H := H1
              clear H1
              obtain rfl := Option.some.inj H
              go_wp2
              repeat (go_quiet (fail); try go_wp2)
              go_ret
              exact ⟨by first | rfl | (simp [errW_none, errW_some] <;> rfl) | (simp [*, errW_none, errW_some] <;> rfl), by repeat (first | (with_reducible first | exact HB.out | apply below_alloc | apply pw_below_drewN | apply below_drew1 | refine below_set ?_ GE254.out) | exact HB.out)⟩
            · replace c20 := Bool.eq_false_iff.mpr c20
              subst c20
              have H1 : (shapesearchlaw09_SeriesRuns.l1 kj13 t255 x6_1 x17_1 0 (t255.length : Int) x17_1 t248 t249 t250) = some r := by rw [if_neg (show ¬ (false = true) by decide)] at H; exact H
              clear H
              have H := H1
              clear H1
              have H' := Aside0.mk H
              clear H
              go_wp2
              repeat (go_quiet (fail); try go_wp2)
              go_loopg [8] kj13 (fun kq v8 w' => ∃ (x8_3 : Int), v8 = .int .i64 x8_3 ∧ Aside0 (shapesearchlaw09_SeriesRuns.l1 kq t255 x6_1 x17_1 x8_3 (t255.length : Int) x17_1 t248 t249 t250 = some r) ∧ Aside0 (kq ≤ kj13) ∧ Aside0 (Kd.R k43 43 w' w.heap.size (fun _ => True) (.slice Ao12 t255.length co12) t255) ∧ Aside0 (Kd.R (Kd.int .i64) 3 w' w.heap.size (fun _ => True) (.slice Ao10 t250.length co10) t250) ∧ Aside0 (w'.heap[gb254]? = some (.cells #[.int .i64 t248, .int .i64 t249, (.slice Ao10 t250.length co10)] 24 (0, 0))) ∧ Aside0 (Below w.heap.size w w'))
              case atStart => exact ⟨(0), (by first | rfl | (simp; done) | (simp [*]; done)), H', ⟨Nat.le_refl _⟩, ⟨by (with_reducible repeat (first | apply Kd.R_alloc | apply Kd.R_drewN | apply Kd.R_drew)); exact HO_4.out⟩, ⟨by (with_reducible repeat (first | apply Kd.R_alloc | apply Kd.R_drewN | apply Kd.R_drew)); exact HO_255002.out⟩, ⟨by (with_reducible repeat (first | refine blk_drewN ?_ _ | refine blk_drew ?_ | refine blk_alloc ?_ _)); exact BK254.out⟩, ⟨by repeat (first | (with_reducible first | exact HB.out | apply below_alloc | apply pw_below_drewN | apply below_drew1 | refine below_set ?_ GE254.out) | exact HB.out)⟩⟩
              case round =>
                clear H'
                try clear c1
                try clear c2
                try clear p2
                try clear q2
                try clear hx2
                try clear c5
                try clear p6
                try clear c8
                try clear c13
                try clear c13b0
                try clear c15
                try clear c15b0
                try clear c16
                try clear c16b0
                try clear c17
                try clear c17b0
                try clear c18
                try clear c18b0
                try clear c20
                try clear hcz19_0
                try clear hcz19_1
                try clear hcz19_2
                try clear hcz9_0
                try clear hcz9_1
                try clear hcz9_2
                try clear hfz19_0
                try clear hfz19_1
                try clear hfz19_2
                try clear hfz9_0
                try clear hfz9_1
                try clear hfz9_2
                try clear hx258_0
                try clear hx258_1
                try clear hx259_0
                try clear hx259_1
                try clear hx260_0
                try clear hx260_1
                try clear hx261_0
                try clear hx261_1
                try clear p2
                try clear p258
                try clear p259
                try clear p260
                try clear p261
                try clear p6
                try clear q2
                try clear q258
                try clear q259
                try clear q260
                try clear q261
                obtain ⟨x8_3, rfl, HA, HK3, HO_4, HO_255002, BK254, HB⟩ := hrel
                cases gk with
                | zero => exact absurd HA.out (by simp [shapesearchlaw09_SeriesRuns.l1])
                | succ k3 =>
                  have H := HA.out
                  clear HA
                  simp only [shapesearchlaw09_SeriesRuns.l1] at H
                  by_cases c21 : 0 ≤ x17_1
                  · rw [if_pos c21] at H
                    have c21b0 : decide (0 ≤ x17_1) = true := decide_eq_true c21
                    clear c21
                    by_cases c22 : x17_1 < (t255.length : Int)
                    · rw [if_pos c22] at H
                      have c22b0 : decide (x17_1 < (t255.length : Int)) = true := decide_eq_true c22
                      clear c22
                      by_cases c23 : x8_3 < ((rd_T43 t255 x17_1).f1)
                      · rw [if_pos c23] at H
                        have c23b0 : decide (x8_3 < ((rd_T43 t255 x17_1).f1)) = true := decide_eq_true c23
                        clear c23
                        obtain ⟨ji24, hji24⟩ : ∃ j_ : Int, (wrap64 (((rd_T43 t255 x17_1).f0) + x8_3)) = j_ := ⟨_, rfl⟩
                        replace H : (if 0 ≤ (ji24) then (if (ji24) < (t250.length : Int) then (if (rd t250 (ji24)) = 1073741824 then (some false) else (shapesearchlaw09_SeriesRuns.l1 k3 t255 x6_1 x17_1 (wrap64 (x8_3 + 1)) (t255.length : Int) x17_1 t248 t249 t250)) else (none)) else (none)) = some r := by first | (rw [hji24] at H; exact H) | (simp only [hji24] at H ⊢; exact H)
                        have hji24w : (IntKind.i64.wrap (((rd_T43 t255 x17_1).f0) + x8_3)) = ji24 := (i64_w _).trans hji24
                        by_cases c25 : 0 ≤ (ji24)
                        · rw [if_pos c25] at H
                          have c25b0 : decide (0 ≤ (ji24)) = true := decide_eq_true c25
                          clear c25
                          by_cases c26 : (ji24) < (t250.length : Int)
                          · rw [if_pos c26] at H
                            have c26b0 : decide ((ji24) < (t250.length : Int)) = true := decide_eq_true c26
                            clear c26
                            by_cases c27 : (rd t250 (ji24)) = 1073741824
                            · rw [if_pos c27] at H
                              have c27b0 : ((rd t250 (ji24)) == 1073741824) = true := beq_iff_eq.mpr c27
                              have c27b1 : ((rd t250 (ji24)) != 1073741824) = false := bne_eq_false_iff_eq.mpr c27
                              clear c27
                              obtain rfl := Option.some.inj H
                              have p262 : 0 ≤ (x17_1 : Int) := of_decide_eq_true (by first | (with_reducible assumption) | assumption)
                              have q262 : x17_1 < (t255.length : Int) := of_decide_eq_true (by first | (with_reducible assumption) | assumption)
                              obtain ⟨ad262, e262, hx262_0, hx262_1⟩ := at_T43 (Kd.R_reads' HO_4.out).2.2 x17_1 p262 q262
                              cases e262
                              replace p262 := eq_true p262
                              replace q262 := eq_true q262
                              have hcz28_0 : wr.cell? ⟨gb254, 0, none⟩ = some (.int .i64 t248) := (blk_cell BK254.out 0).trans rfl
                              have hcz28_1 : wr.cell? ⟨gb254, 1, none⟩ = some (.int .i64 t249) := (blk_cell BK254.out 1).trans rfl
                              have hcz28_2 : wr.cell? ⟨gb254, 2, none⟩ = some (.slice Ao10 t250.length co10) := (blk_cell BK254.out 2).trans rfl
                              have hfz28_0 := blk_frozen BK254.out 0
                              have hfz28_1 := blk_frozen BK254.out 1
                              have hfz28_2 := blk_frozen BK254.out 2
                              have p263 : 0 ≤ (x17_1 : Int) := of_decide_eq_true (by first | (with_reducible assumption) | assumption)
                              have q263 : x17_1 < (t255.length : Int) := of_decide_eq_true (by first | (with_reducible assumption) | assumption)
                              obtain ⟨ad263, e263, hx263_0, hx263_1⟩ := at_T43 (Kd.R_reads' HO_4.out).2.2 x17_1 p263 q263
                              obtain rfl : ad262 = ad263 := (by injection e263)
                              replace p263 := eq_true p263
                              replace q263 := eq_true q263
                              have p264 : 0 ≤ ((ji24) : Int) := of_decide_eq_true (by first | (with_reducible assumption) | assumption)
                              have q264 : (ji24) < (t250.length : Int) := of_decide_eq_true (by first | (with_reducible assumption) | assumption)
                              obtain ⟨ad264, e264, hx264_0⟩ := Kd.at_int (Kd.R_reads' HO_255002.out).2.2 (ji24) p264 q264
                              cases e264
                              replace p264 := eq_true p264
                              replace q264 := eq_true q264
                              go_wp2
                              repeat (go_quiet (fail); try go_wp2)
                              go_ret
                              exact ⟨by first | rfl | (simp [errW_none, errW_some] <;> rfl) | (simp only [← hji24]; first | rfl | (simp [errW_none, errW_some] <;> rfl)) | (simp [*, errW_none, errW_some] <;> rfl), by repeat (first | (with_reducible first | exact HB.out | apply below_alloc | apply pw_below_drewN | apply below_drew1 | refine below_set ?_ GE254.out) | exact HB.out)⟩
                            · rw [if_neg c27] at H
                              have c27b0 : ((rd t250 (ji24)) == 1073741824) = false := beq_eq_false_iff_ne.mpr c27
                              have c27b1 : ((rd t250 (ji24)) != 1073741824) = true := bne_iff_ne.mpr c27
                              have H' := Aside0.mk H
                              clear H
                              have p262 : 0 ≤ (x17_1 : Int) := of_decide_eq_true (by first | (with_reducible assumption) | assumption)
                              have q262 : x17_1 < (t255.length : Int) := of_decide_eq_true (by first | (with_reducible assumption) | assumption)
                              obtain ⟨ad262, e262, hx262_0, hx262_1⟩ := at_T43 (Kd.R_reads' HO_4.out).2.2 x17_1 p262 q262
                              cases e262
                              replace p262 := eq_true p262
                              replace q262 := eq_true q262
                              have hcz29_0 : wr.cell? ⟨gb254, 0, none⟩ = some (.int .i64 t248) := (blk_cell BK254.out 0).trans rfl
                              have hcz29_1 : wr.cell? ⟨gb254, 1, none⟩ = some (.int .i64 t249) := (blk_cell BK254.out 1).trans rfl
                              have hcz29_2 : wr.cell? ⟨gb254, 2, none⟩ = some (.slice Ao10 t250.length co10) := (blk_cell BK254.out 2).trans rfl
                              have hfz29_0 := blk_frozen BK254.out 0
                              have hfz29_1 := blk_frozen BK254.out 1
                              have hfz29_2 := blk_frozen BK254.out 2
                              have p263 : 0 ≤ (x17_1 : Int) := of_decide_eq_true (by first | (with_reducible assumption) | assumption)
                              have q263 : x17_1 < (t255.length : Int) := of_decide_eq_true (by first | (with_reducible assumption) | assumption)
                              obtain ⟨ad263, e263, hx263_0, hx263_1⟩ := at_T43 (Kd.R_reads' HO_4.out).2.2 x17_1 p263 q263
                              obtain rfl : ad262 = ad263 := (by injection e263)
                              replace p263 := eq_true p263
                              replace q263 := eq_true q263
                              have p264 : 0 ≤ ((ji24) : Int) := of_decide_eq_true (by first | (with_reducible assumption) | assumption)
                              have q264 : (ji24) < (t250.length : Int) := of_decide_eq_true (by first | (with_reducible assumption) | assumption)
                              obtain ⟨ad264, e264, hx264_0⟩ := Kd.at_int (Kd.R_reads' HO_255002.out).2.2 (ji24) p264 q264
                              cases e264
                              replace p264 := eq_true p264
                              replace q264 := eq_true q264
                              go_wp2
                              repeat (go_quiet (fail); try go_wp2)
                              go_roundg k3
                              case measure => have := HK1.out; have := HJ13.out; have := HK3.out; omega
                              case rel => exact ⟨(wrap64 (x8_3 + 1)), (by first | rfl | (simp; done) | (simp [*]; done)), H', ⟨by have := HK1.out; have := HJ13.out; have := HK3.out; omega⟩, ⟨by (with_reducible repeat (first | apply Kd.R_alloc | apply Kd.R_drewN | apply Kd.R_drew)); exact HO_4.out⟩, ⟨by (with_reducible repeat (first | apply Kd.R_alloc | apply Kd.R_drewN | apply Kd.R_drew)); exact HO_255002.out⟩, ⟨by (with_reducible repeat (first | refine blk_drewN ?_ _ | refine blk_drew ?_ | refine blk_alloc ?_ _)); exact BK254.out⟩, ⟨by repeat (first | (with_reducible first | exact HB.out | apply below_alloc | apply pw_below_drewN | apply below_drew1 | refine below_set ?_ GE254.out) | exact HB.out)⟩⟩
                          · rw [if_neg c26] at H
                            exact absurd H (by simp)
                        · rw [if_neg c25] at H
                          exact absurd H (by simp)
                      · rw [if_neg c23] at H
                        have c23b0 : decide (x8_3 < ((rd_T43 t255 x17_1).f1)) = false := decide_eq_false c23
                        clear c23
                        have H' := Aside0.mk H
                        clear H
                        have p262 : 0 ≤ (x17_1 : Int) := of_decide_eq_true (by first | (with_reducible assumption) | assumption)
                        have q262 : x17_1 < (t255.length : Int) := of_decide_eq_true (by first | (with_reducible assumption) | assumption)
                        obtain ⟨ad262, e262, hx262_0, hx262_1⟩ := at_T43 (Kd.R_reads' HO_4.out).2.2 x17_1 p262 q262
                        cases e262
                        replace p262 := eq_true p262
                        replace q262 := eq_true q262
                        have p265 : 0 ≤ (x17_1 : Int) := of_decide_eq_true (by first | (with_reducible assumption) | assumption)
                        have q265 : x17_1 < (t255.length : Int) := of_decide_eq_true (by first | (with_reducible assumption) | assumption)
                        obtain ⟨ad265, e265, hx265_0, hx265_1⟩ := at_T43 (Kd.R_reads' HO_4.out).2.2 x17_1 p265 q265
                        obtain rfl : ad262 = ad265 := (by injection e265)
                        replace p265 := eq_true p265
                        replace q265 := eq_true q265
                        have p266 : 0 ≤ (x17_1 : Int) := of_decide_eq_true (by first | (with_reducible assumption) | assumption)
                        have q266 : x17_1 < (t255.length : Int) := of_decide_eq_true (by first | (with_reducible assumption) | assumption)
                        obtain ⟨ad266, e266, hx266_0, hx266_1⟩ := at_T43 (Kd.R_reads' HO_4.out).2.2 x17_1 p266 q266
                        obtain rfl : ad262 = ad266 := (by injection e266)
                        replace p266 := eq_true p266
                        replace q266 := eq_true q266
                        have p267 : 0 ≤ (x17_1 : Int) := of_decide_eq_true (by first | (with_reducible assumption) | assumption)
                        have q267 : x17_1 < (t255.length : Int) := of_decide_eq_true (by first | (with_reducible assumption) | assumption)
                        obtain ⟨ad267, e267, hx267_0, hx267_1⟩ := at_T43 (Kd.R_reads' HO_4.out).2.2 x17_1 p267 q267
                        obtain rfl : ad262 = ad267 := (by injection e267)
                        replace p267 := eq_true p267
                        replace q267 := eq_true q267
                        go_wp2
                        repeat (go_quiet (fail); try go_wp2)
                        go_roundg k3
                        case measure => have := HK1.out; have := HJ13.out; have := HK3.out; omega
                        case rel => exact ⟨(wrap64 (((rd_T43 t255 x17_1).f0) + ((rd_T43 t255 x17_1).f1))), (wrap64 (x6_1 + ((rd_T43 t255 x17_1).f1))), (wrap64 (x17_1 + 1)), (by first | rfl | (simp; done) | (simp [*]; done)), (by first | rfl | (simp; done) | (simp [*]; done)), (by first | rfl | (simp; done) | (simp [*]; done)), H', ⟨by have := HK1.out; have := HJ13.out; have := HK3.out; omega⟩, ⟨by (with_reducible repeat (first | apply Kd.R_alloc | apply Kd.R_drewN | apply Kd.R_drew)); exact HO_4.out⟩, ⟨by (with_reducible repeat (first | apply Kd.R_alloc | apply Kd.R_drewN | apply Kd.R_drew)); exact HO_255002.out⟩, ⟨by (with_reducible repeat (first | refine blk_drewN ?_ _ | refine blk_drew ?_ | refine blk_alloc ?_ _)); exact BK254.out⟩, ⟨by repeat (first | (with_reducible first | exact HB.out | apply below_alloc | apply pw_below_drewN | apply below_drew1 | refine below_set ?_ GE254.out) | exact HB.out)⟩⟩
                    · rw [if_neg c22] at H
                      exact absurd H (by simp)
                  · rw [if_neg c21] at H
                    exact absurd H (by simp)
      · rw [if_neg c13] at H
        have c13b0 : decide (x17_1 < (t255.length : Int)) = false := decide_eq_false c13
        clear c13
        have H' := Aside0.mk H
        clear H
        have hcz30_0 : wr.cell? ⟨gb254, 0, none⟩ = some (.int .i64 t248) := (blk_cell BK254.out 0).trans rfl
        have hcz30_1 : wr.cell? ⟨gb254, 1, none⟩ = some (.int .i64 t249) := (blk_cell BK254.out 1).trans rfl
        have hcz30_2 : wr.cell? ⟨gb254, 2, none⟩ = some (.slice Ao10 t250.length co10) := (blk_cell BK254.out 2).trans rfl
        have hfz30_0 := blk_frozen BK254.out 0
        have hfz30_1 := blk_frozen BK254.out 1
        have hfz30_2 := blk_frozen BK254.out 2
        go_wp2
        repeat (go_quiet (fail); try go_wp2)
        go_loopg [6, 95] k1 (fun kq v6 v95 w' => ∃ (x6_2 : Int) (x95_2 : Int), v6 = .int .i64 x6_2 ∧ v95 = .int .i64 x95_2 ∧ Aside0 (shapesearchlaw09_SeriesRuns.l2 kq x6_2 (t250.length : Int) x95_2 t248 t249 t250 = some r) ∧ Aside0 (kq ≤ k1) ∧ Aside0 (Kd.R (Kd.int .i64) 3 w' w.heap.size (fun _ => True) (.slice Ao10 t250.length co10) t250) ∧ Aside0 (w'.heap[gb254]? = some (.cells #[.int .i64 t248, .int .i64 t249, (.slice Ao10 t250.length co10)] 24 (0, 0))) ∧ Aside0 (Below w.heap.size w w'))
        case atStart => exact ⟨(x6_1), (0), (by first | rfl | (simp; done) | (simp [*]; done)), (by first | rfl | (simp; done) | (simp [*]; done)), H', ⟨Nat.le_refl _⟩, ⟨by (with_reducible repeat (first | apply Kd.R_alloc | apply Kd.R_drewN | apply Kd.R_drew)); exact HO_255002.out⟩, ⟨by (with_reducible repeat (first | refine blk_drewN ?_ _ | refine blk_drew ?_ | refine blk_alloc ?_ _)); exact BK254.out⟩, ⟨by repeat (first | (with_reducible first | exact HB.out | apply below_alloc | apply pw_below_drewN | apply below_drew1 | refine below_set ?_ GE254.out) | exact HB.out)⟩⟩
        case round =>
          clear H'
          try clear c1
          try clear c2
          try clear p2
          try clear q2
          try clear hx2
          try clear c5
          try clear p6
          try clear c8
          try clear c13
          try clear c13b0
          try clear c15
          try clear c15b0
          try clear c16
          try clear c16b0
          try clear c17
          try clear c17b0
          try clear c18
          try clear c18b0
          try clear c20
          try clear c21
          try clear c21b0
          try clear c22
          try clear c22b0
          try clear c23
          try clear c23b0
          try clear c25
          try clear c25b0
          try clear p25
          try clear q25
          try clear hx25
          try clear c26
          try clear c26b0
          try clear p26
          try clear q26
          try clear hx26
          try clear c27
          try clear c27b0
          try clear c27b1
          try clear hcz19_0
          try clear hcz19_1
          try clear hcz19_2
          try clear hcz28_0
          try clear hcz28_1
          try clear hcz28_2
          try clear hcz29_0
          try clear hcz29_1
          try clear hcz29_2
          try clear hcz30_0
          try clear hcz30_1
          try clear hcz30_2
          try clear hcz9_0
          try clear hcz9_1
          try clear hcz9_2
          try clear hfz19_0
          try clear hfz19_1
          try clear hfz19_2
          try clear hfz28_0
          try clear hfz28_1
          try clear hfz28_2
          try clear hfz29_0
          try clear hfz29_1
          try clear hfz29_2
          try clear hfz30_0
          try clear hfz30_1
          try clear hfz30_2
          try clear hfz9_0
          try clear hfz9_1
          try clear hfz9_2
          try clear hx258_0
          try clear hx258_1
          try clear hx259_0
          try clear hx259_1
          try clear hx260_0
          try clear hx260_1
          try clear hx261_0
          try clear hx261_1
          try clear hx262_0
          try clear hx262_1
          try clear hx263_0
          try clear hx263_1
          try clear hx264_0
          try clear hx265_0
          try clear hx265_1
          try clear hx266_0
          try clear hx266_1
          try clear hx267_0
          try clear hx267_1
          try clear p2
          try clear p258
          try clear p259
          try clear p260
          try clear p261
          try clear p262
          try clear p263
          try clear p264
          try clear p265
          try clear p266
          try clear p267
          try clear p6
          try clear q2
          try clear q258
          try clear q259
          try clear q260
          try clear q261
          try clear q262
          try clear q263
          try clear q264
          try clear q265
          try clear q266
          try clear q267
          obtain ⟨x6_2, x95_2, rfl, rfl, HA, HK2, HO_255002, BK254, HB⟩ := hrel
          cases gk with
          | zero => exact absurd HA.out (by simp [shapesearchlaw09_SeriesRuns.l2])
          | succ k2 =>
            have H := HA.out
            clear HA
            simp only [shapesearchlaw09_SeriesRuns.l2] at H
            by_cases c31 : x95_2 < (t250.length : Int)
            · rw [if_pos c31] at H
              have c31b0 : decide (x95_2 < (t250.length : Int)) = true := decide_eq_true c31
              clear c31
              by_cases c32 : 0 ≤ x95_2
              · rw [if_pos c32] at H
                have c32b0 : decide (0 ≤ x95_2) = true := decide_eq_true c32
                clear c32
                by_cases c33 : x95_2 < (t250.length : Int)
                · rw [if_pos c33] at H
                  have c33b0 : decide (x95_2 < (t250.length : Int)) = true := decide_eq_true c33
                  clear c33
                  by_cases c34 : (rd t250 x95_2) = 1073741824
                  · rw [if_pos c34] at H
                    have c34b0 : ((rd t250 x95_2) == 1073741824) = true := beq_iff_eq.mpr c34
                    have c34b1 : ((rd t250 x95_2) != 1073741824) = false := bne_eq_false_iff_eq.mpr c34
                    clear c34
                    have H' := Aside0.mk H
                    clear H
                    have hcz35_0 : wr.cell? ⟨gb254, 0, none⟩ = some (.int .i64 t248) := (blk_cell BK254.out 0).trans rfl
                    have hcz35_1 : wr.cell? ⟨gb254, 1, none⟩ = some (.int .i64 t249) := (blk_cell BK254.out 1).trans rfl
                    have hcz35_2 : wr.cell? ⟨gb254, 2, none⟩ = some (.slice Ao10 t250.length co10) := (blk_cell BK254.out 2).trans rfl
                    have hfz35_0 := blk_frozen BK254.out 0
                    have hfz35_1 := blk_frozen BK254.out 1
                    have hfz35_2 := blk_frozen BK254.out 2
                    have p268 : 0 ≤ (x95_2 : Int) := of_decide_eq_true (by first | (with_reducible assumption) | assumption)
                    have q268 : x95_2 < (t250.length : Int) := of_decide_eq_true (by first | (with_reducible assumption) | assumption)
                    obtain ⟨ad268, e268, hx268_0⟩ := Kd.at_int (Kd.R_reads' HO_255002.out).2.2 x95_2 p268 q268
                    cases e268
                    replace p268 := eq_true p268
                    replace q268 := eq_true q268
                    go_wp2
                    repeat (go_quiet (fail); try go_wp2)
                    go_roundg k2
                    case measure => have := HK1.out; have := HK2.out; omega
                    case rel => exact ⟨(x6_2), (wrap64 (x95_2 + 1)), (by first | rfl | (simp; done) | (simp [*]; done)), (by first | rfl | (simp; done) | (simp [*]; done)), H', ⟨by have := HK1.out; have := HK2.out; omega⟩, ⟨by (with_reducible repeat (first | apply Kd.R_alloc | apply Kd.R_drewN | apply Kd.R_drew)); exact HO_255002.out⟩, ⟨by (with_reducible repeat (first | refine blk_drewN ?_ _ | refine blk_drew ?_ | refine blk_alloc ?_ _)); exact BK254.out⟩, ⟨by repeat (first | (with_reducible first | exact HB.out | apply below_alloc | apply pw_below_drewN | apply below_drew1 | refine below_set ?_ GE254.out) | exact HB.out)⟩⟩
                  · rw [if_neg c34] at H
                    have c34b0 : ((rd t250 x95_2) == 1073741824) = false := beq_eq_false_iff_ne.mpr c34
                    have c34b1 : ((rd t250 x95_2) != 1073741824) = true := bne_iff_ne.mpr c34
                    have H' := Aside0.mk H
                    clear H
                    have hcz36_0 : wr.cell? ⟨gb254, 0, none⟩ = some (.int .i64 t248) := (blk_cell BK254.out 0).trans rfl
                    have hcz36_1 : wr.cell? ⟨gb254, 1, none⟩ = some (.int .i64 t249) := (blk_cell BK254.out 1).trans rfl
                    have hcz36_2 : wr.cell? ⟨gb254, 2, none⟩ = some (.slice Ao10 t250.length co10) := (blk_cell BK254.out 2).trans rfl
                    have hfz36_0 := blk_frozen BK254.out 0
                    have hfz36_1 := blk_frozen BK254.out 1
                    have hfz36_2 := blk_frozen BK254.out 2
                    have p268 : 0 ≤ (x95_2 : Int) := of_decide_eq_true (by first | (with_reducible assumption) | assumption)
                    have q268 : x95_2 < (t250.length : Int) := of_decide_eq_true (by first | (with_reducible assumption) | assumption)
                    obtain ⟨ad268, e268, hx268_0⟩ := Kd.at_int (Kd.R_reads' HO_255002.out).2.2 x95_2 p268 q268
                    cases e268
                    replace p268 := eq_true p268
                    replace q268 := eq_true q268
                    go_wp2
                    repeat (go_quiet (fail); try go_wp2)
                    go_roundg k2
                    case measure => have := HK1.out; have := HK2.out; omega
                    case rel => exact ⟨(wrap64 (x6_2 - 1)), (wrap64 (x95_2 + 1)), (by first | rfl | (simp; done) | (simp [*]; done)), (by first | rfl | (simp; done) | (simp [*]; done)), H', ⟨by have := HK1.out; have := HK2.out; omega⟩, ⟨by (with_reducible repeat (first | apply Kd.R_alloc | apply Kd.R_drewN | apply Kd.R_drew)); exact HO_255002.out⟩, ⟨by (with_reducible repeat (first | refine blk_drewN ?_ _ | refine blk_drew ?_ | refine blk_alloc ?_ _)); exact BK254.out⟩, ⟨by repeat (first | (with_reducible first | exact HB.out | apply below_alloc | apply pw_below_drewN | apply below_drew1 | refine below_set ?_ GE254.out) | exact HB.out)⟩⟩
                · rw [if_neg c33] at H
                  exact absurd H (by simp)
              · rw [if_neg c32] at H
                exact absurd H (by simp)
            · rw [if_neg c31] at H
              have c31b0 : decide (x95_2 < (t250.length : Int)) = false := decide_eq_false c31
              clear c31
              by_cases c37 : x6_2 = 0
              · rw [if_pos c37] at H
                have c37b0 : (x6_2 == 0) = true := beq_iff_eq.mpr c37
                have c37b1 : (x6_2 != 0) = false := bne_eq_false_iff_eq.mpr c37
                clear c37
                replace H := Option.bind_eq_some_iff.mp H
                obtain ⟨t269, A380, H⟩ := H
                replace H : (some t269) = some r := H
                have A38 := Aside0.mk A380
                clear A380
                obtain rfl := Option.some.inj H
                go_wp2_with (first | (go_at_call 15; (with_reducible refine (shapesearchlaw09_awake.calls k2  t269 _ A38.out).mono ?_); rintro e w39 ⟨rfl, hb⟩; have n0_ := Aside0.mk (Kd.R_below (by (with_reducible repeat (first | apply Kd.R_alloc | apply Kd.R_drewN | apply Kd.R_drew)); exact HO_255002.out) hb); have n1_ := Aside0.mk (blk_below (g := gb254) (o := .cells #[.int .i64 t248, .int .i64 t249, .slice Ao10 t250.length co10] 24 (0, 0)) (by (with_reducible repeat (first | refine blk_drewN ?_ _ | refine blk_drew ?_ | refine blk_alloc ?_ _)); exact BK254.out) hb); have n2_ := Aside0.mk (below_step (by repeat (first | (with_reducible first | exact HB.out | apply below_alloc | apply pw_below_drewN | apply below_drew1 | refine below_set ?_ GE254.out) | exact HB.out)) hb); clear HO_255002; clear BK254; clear HB; have HO_255002 := n0_; have BK254 := n1_; have HB := n2_; clear n0_ n1_ n2_; (try clear hb); (try clear hb2); (try clear hk); (try clear hi)))
                repeat (go_quiet (first | (go_at_call 15; (with_reducible refine (shapesearchlaw09_awake.calls k2  t269 _ A38.out).mono ?_); rintro e w39 ⟨rfl, hb⟩; have n0_ := Aside0.mk (Kd.R_below (by (with_reducible repeat (first | apply Kd.R_alloc | apply Kd.R_drewN | apply Kd.R_drew)); exact HO_255002.out) hb); have n1_ := Aside0.mk (blk_below (g := gb254) (o := .cells #[.int .i64 t248, .int .i64 t249, .slice Ao10 t250.length co10] 24 (0, 0)) (by (with_reducible repeat (first | refine blk_drewN ?_ _ | refine blk_drew ?_ | refine blk_alloc ?_ _)); exact BK254.out) hb); have n2_ := Aside0.mk (below_step (by repeat (first | (with_reducible first | exact HB.out | apply below_alloc | apply pw_below_drewN | apply below_drew1 | refine below_set ?_ GE254.out) | exact HB.out)) hb); clear HO_255002; clear BK254; clear HB; have HO_255002 := n0_; have BK254 := n1_; have HB := n2_; clear n0_ n1_ n2_; (try clear hb); (try clear hb2); (try clear hk); (try clear hi))); try go_wp2_with (first | (go_at_call 15; (with_reducible refine (shapesearchlaw09_awake.calls k2  t269 _ A38.out).mono ?_); rintro e w39 ⟨rfl, hb⟩; have n0_ := Aside0.mk (Kd.R_below (by (with_reducible repeat (first | apply Kd.R_alloc | apply Kd.R_drewN | apply Kd.R_drew)); exact HO_255002.out) hb); have n1_ := Aside0.mk (blk_below (g := gb254) (o := .cells #[.int .i64 t248, .int .i64 t249, .slice Ao10 t250.length co10] 24 (0, 0)) (by (with_reducible repeat (first | refine blk_drewN ?_ _ | refine blk_drew ?_ | refine blk_alloc ?_ _)); exact BK254.out) hb); have n2_ := Aside0.mk (below_step (by repeat (first | (with_reducible first | exact HB.out | apply below_alloc | apply pw_below_drewN | apply below_drew1 | refine below_set ?_ GE254.out) | exact HB.out)) hb); clear HO_255002; clear BK254; clear HB; have HO_255002 := n0_; have BK254 := n1_; have HB := n2_; clear n0_ n1_ n2_; (try clear hb); (try clear hb2); (try clear hk); (try clear hi))))
                go_ret
                exact ⟨by first | rfl | (simp [errW_none, errW_some] <;> rfl) | (simp [*, errW_none, errW_some] <;> rfl), by repeat (first | (with_reducible first | exact HB.out | apply below_alloc | apply pw_below_drewN | apply below_drew1 | refine below_set ?_ GE254.out) | exact HB.out)⟩
              · rw [if_neg c37] at H
                have c37b0 : (x6_2 == 0) = false := beq_eq_false_iff_ne.mpr c37
                have c37b1 : (x6_2 != 0) = true := bne_iff_ne.mpr c37
                obtain rfl := Option.some.inj H
                go_wp2
                repeat (go_quiet (fail); try go_wp2)
                go_ret
                exact ⟨by first | rfl | (simp [errW_none, errW_some] <;> rfl) | (simp [*, errW_none, errW_some] <;> rfl), by repeat (first | (with_reducible first | exact HB.out | apply below_alloc | apply pw_below_drewN | apply below_drew1 | refine below_set ?_ GE254.out) | exact HB.out)⟩

/-- THE ONE PURE STATEMENT of shapesearchlaw09_SeriesRuns: yours. -/
def shapesearchlaw09_SeriesRuns.Pure : Prop := ∀ (l0 : List Int), l0.length ≤ maxLen → l0.length * 8 ≤ 140737488351232 → (∀ x ∈ l0, (Lit.int .i64 x).wf = true) → ∃ k, shapesearchlaw09_SeriesRuns.f k l0 = some true
theorem shapesearchlaw09_SeriesRuns.walk (P : shapesearchlaw09_SeriesRuns.Pure) (a0 : Option Addr) (len0 cap0 : Nat) (z0 : List Int) (w : World) (w0 : (a0 = none ∧ len0 = 0 ∧ cap0 = 0 ∧ z0 = []) ∨ ∃ x, a0 = some x ∧ len0 ≤ cap0 ∧ cap0 ≤ maxLen ∧ z0.length = cap0 ∧ (∀ i, i < z0.length → w.cell? (x.add i) = some (.int .i64 (z0.getD i 0))) ∧ ∀ n ∈ z0, (Lit.int .i64 n).wf = true) (y0 : len0 * 8 ≤ 140737488351232) :
    Calls Try.prog 5 #[.slice a0 len0 cap0] w fun e w' => e = .returned (.bool true) ∧ Below w.heap.size w w' := by
  obtain ⟨l0, rfl, hr0, hm0, hw0, hc0⟩ := ReadsInt.ofRowC w0
  obtain ⟨k, h⟩ := P l0 hm0 y0 hw0
  refine (shapesearchlaw09_SeriesRuns.calls k _ _ l0 true w (Kd.C_of_reads (d := (0 : Int)) (h1 := fun _ => rfl) hr0) hc0 h).mono ?_
  rintro e w' ⟨rfl, hd⟩
  exact ⟨rfl, hd⟩

end Go.Proofs.Ytklghejinlhjpaa.PSeriesRuns
