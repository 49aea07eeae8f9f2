/- This file proves, function by function, what the Go functions that one law uses compute; most of it was printed by a program (wip/tools of this session, over the kit's print). -/
import Derived.Test.YtklghejinlhjpaaPSeriesLongerx0
import Derived.Test.YtklghejinlhjpaaPSeriesLongerx1
import Derived.Test.YtklghejinlhjpaaPSeriesLongerx2
import Derived.Test.YtklghejinlhjpaaPSeriesLongerx3
import Derived.Test.YtklghejinlhjpaaPSeriesLongerx4
namespace Go.Proofs.Ytklghejinlhjpaa.PSeriesLonger
open Go.RowKit Go.Proofs.YtklghejinlhjpaaW.PrintWords Go.Proofs.YtklghejinlhjpaaW.PrintLast Go.Proofs.YtklghejinlhjpaaW.PrintMore
attribute [local go_sem] max2_int min2_int max_two min_two max_three min_three max_four min_four   -- for this text's walks alone
set_option linter.unusedVariables false
set_option linter.unusedSimpArgs false

/-! ### shapesearchlaw09_SeriesLonger: function 4 -/
mutual
def shapesearchlaw09_SeriesLonger.j0 : Nat → Int → Int → Int → Bool → Int → Int → List Int → Option (Bool)
  | 0, _, _, _, _, _, _, _ => none
  | k + 1, x2, x3, x10, x45, x258000, x258001, x258002 => if x45 = true then (some false) else ((shapesearchkeep_Mod.f (wrap64 (x2)) (wrap64 ((x258002.length : Int) + 1))).bind fun t265 => ((series_Cut.f k x258000 x258001 x258002 t265 (wrap64 ((x258002.length : Int) - t265))).bind fun bt266 => (if bt266.2.2.2 = 0 then (shapesearchlaw09_SeriesLonger.j1 k x3 x10 t265 (bt266.1 != (wrap64 (x258000 + (wrap64 (t265 * x258001))))) x258000 x258001 x258002 bt266.1 bt266.2.1 bt266.2.2.1) else (shapesearchlaw09_SeriesLonger.j1 k x3 x10 t265 true x258000 x258001 x258002 bt266.1 bt266.2.1 bt266.2.2.1))))
def shapesearchlaw09_SeriesLonger.j1 : Nat → Int → Int → Int → Bool → Int → Int → List Int → Int → Int → List Int → Option (Bool)
  | 0, _, _, _, _, _, _, _, _, _, _ => none
  | k + 1, x3, x10, x13, x77, x258000, x258001, x258002, x273000, x273001, x273002 => if x77 = true then (some false) else ((series_Window.f k x273000 x273001 x273002 (Int.tmod (wrap64 (x3)) 40) x10).bind fun bt273 => ((series_Window.f k x258000 x258001 x258002 (wrap64 (x13 + (Int.tmod (wrap64 (x3)) 40))) x10).bind fun bt277 => (if bt273.2 = bt277.2 then ((shapesearchkeep_Ints.f k bt273.1 bt277.1).bind fun t281 => (if t281 = true then ((shapesearchlaw09_awake.f k).bind fun t282 => (some t282)) else (some false))) else (some false))))
end
def shapesearchlaw09_SeriesLonger.f (k : Nat) (l0 : List Int) (a1 : Int) (a2 : Int) (a3 : Int) : Option (Bool) := (shapesearchkeep_New.f l0).bind fun bt248 => ((shapesearchkeep_Src_Series.f k bt248.1 bt248.2 40).bind fun bt251 => ((series_Starts.f k bt251.1 bt251.2.1 bt251.2.2.1 (wrap64 ((wrap64 (1 + (Int.tmod (wrap64 (a1)) 8))) + 1))).bind fun t258 => ((series_Starts.f k bt251.1 bt251.2.1 bt251.2.2.1 (wrap64 (1 + (Int.tmod (wrap64 (a1)) 8)))).bind fun t261 => ((shapesearchkeep_Inside.f k t258 t261).bind fun t264 => (if t264 = true then (shapesearchlaw09_SeriesLonger.j0 k a2 a3 (wrap64 (1 + (Int.tmod (wrap64 (a1)) 8))) (decide ((t258.length : Int) > (t261.length : Int))) bt251.1 bt251.2.1 bt251.2.2.1) else (shapesearchlaw09_SeriesLonger.j0 k a2 a3 (wrap64 (1 + (Int.tmod (wrap64 (a1)) 8))) true bt251.1 bt251.2.1 bt251.2.2.1))))))
theorem shapesearchlaw09_SeriesLonger.mono_l : ∀ k, (∀ y0 y1 y2 y3 y4 y5 y6, LeO (shapesearchlaw09_SeriesLonger.j0 k y0 y1 y2 y3 y4 y5 y6) (shapesearchlaw09_SeriesLonger.j0 (k + 1) y0 y1 y2 y3 y4 y5 y6)) ∧ (∀ y0 y1 y2 y3 y4 y5 y6 y7 y8 y9, LeO (shapesearchlaw09_SeriesLonger.j1 k y0 y1 y2 y3 y4 y5 y6 y7 y8 y9) (shapesearchlaw09_SeriesLonger.j1 (k + 1) y0 y1 y2 y3 y4 y5 y6 y7 y8 y9))
  | 0 => ⟨fun _ _ _ _ _ _ _ r h => by simp [shapesearchlaw09_SeriesLonger.j0] at h, fun _ _ _ _ _ _ _ _ _ _ r h => by simp [shapesearchlaw09_SeriesLonger.j1] at h⟩
  | k + 1 => by
    obtain ⟨ih0, ih1⟩ := shapesearchlaw09_SeriesLonger.mono_l k
    refine ⟨?_, ?_⟩
    · intro y0 y1 y2 y3 y4 y5 y6
      unfold shapesearchlaw09_SeriesLonger.j0
      repeat' first
      | (with_reducible exact ih0 _ _ _ _ _ _ _)
      | (with_reducible exact ih1 _ _ _ _ _ _ _ _ _ _)
      | (with_reducible exact series_Cut.mono _ _ _ _ _ _)
      | (with_reducible exact series_Starts.mono _ _ _ _ _)
      | (with_reducible exact series_Window.mono _ _ _ _ _ _)
      | (with_reducible exact shapesearchkeep_Inside.mono _ _ _)
      | (with_reducible exact shapesearchkeep_Ints.mono _ _ _)
      | (with_reducible exact shapesearchkeep_Src_Series.mono _ _ _ _)
      | (with_reducible exact shapesearchlaw09_awake.mono _)
      | (with_reducible exact LeO.refl _)
      | (with_reducible exact LeO.none _)
      | (with_reducible refine LeO.ite ?_ ?_)
      | (with_reducible refine LeO.bind ?_ (fun _ => ?_))
      | exact ih0 _ _ _ _ _ _ _
      | exact ih1 _ _ _ _ _ _ _ _ _ _
      | exact series_Cut.mono _ _ _ _ _ _
      | exact series_Starts.mono _ _ _ _ _
      | exact series_Window.mono _ _ _ _ _ _
      | exact shapesearchkeep_Inside.mono _ _ _
      | exact shapesearchkeep_Ints.mono _ _ _
      | exact shapesearchkeep_Src_Series.mono _ _ _ _
      | exact shapesearchlaw09_awake.mono _
      | exact LeO.none _
      | refine LeO.ite ?_ ?_
      | refine LeO.bind ?_ (fun _ => ?_)
    · intro y0 y1 y2 y3 y4 y5 y6 y7 y8 y9
      unfold shapesearchlaw09_SeriesLonger.j1
      repeat' first
      | (with_reducible exact ih0 _ _ _ _ _ _ _)
      | (with_reducible exact ih1 _ _ _ _ _ _ _ _ _ _)
      | (with_reducible exact series_Cut.mono _ _ _ _ _ _)
      | (with_reducible exact series_Starts.mono _ _ _ _ _)
      | (with_reducible exact series_Window.mono _ _ _ _ _ _)
      | (with_reducible exact shapesearchkeep_Inside.mono _ _ _)
      | (with_reducible exact shapesearchkeep_Ints.mono _ _ _)
      | (with_reducible exact shapesearchkeep_Src_Series.mono _ _ _ _)
      | (with_reducible exact shapesearchlaw09_awake.mono _)
      | (with_reducible exact LeO.refl _)
      | (with_reducible exact LeO.none _)
      | (with_reducible refine LeO.ite ?_ ?_)
      | (with_reducible refine LeO.bind ?_ (fun _ => ?_))
      | exact ih0 _ _ _ _ _ _ _
      | exact ih1 _ _ _ _ _ _ _ _ _ _
      | exact series_Cut.mono _ _ _ _ _ _
      | exact series_Starts.mono _ _ _ _ _
      | exact series_Window.mono _ _ _ _ _ _
      | exact shapesearchkeep_Inside.mono _ _ _
      | exact shapesearchkeep_Ints.mono _ _ _
      | exact shapesearchkeep_Src_Series.mono _ _ _ _
      | exact shapesearchlaw09_awake.mono _
      | exact LeO.none _
      | refine LeO.ite ?_ ?_
      | refine LeO.bind ?_ (fun _ => ?_)
theorem shapesearchlaw09_SeriesLonger.mono : ∀ a0 a1 a2 a3 k, LeO (shapesearchlaw09_SeriesLonger.f k a0 a1 a2 a3) (shapesearchlaw09_SeriesLonger.f (k + 1) a0 a1 a2 a3) := by
  intro a0 a1 a2 a3 k
  obtain ⟨ih0, ih1⟩ := shapesearchlaw09_SeriesLonger.mono_l k
  unfold shapesearchlaw09_SeriesLonger.f
  repeat' first
      | (with_reducible exact ih0 _ _ _ _ _ _ _)
      | (with_reducible exact ih1 _ _ _ _ _ _ _ _ _ _)
      | (with_reducible exact series_Cut.mono _ _ _ _ _ _)
      | (with_reducible exact series_Starts.mono _ _ _ _ _)
      | (with_reducible exact series_Window.mono _ _ _ _ _ _)
      | (with_reducible exact shapesearchkeep_Inside.mono _ _ _)
      | (with_reducible exact shapesearchkeep_Ints.mono _ _ _)
      | (with_reducible exact shapesearchkeep_Src_Series.mono _ _ _ _)
      | (with_reducible exact shapesearchlaw09_awake.mono _)
      | (with_reducible exact LeO.refl _)
      | (with_reducible exact LeO.none _)
      | (with_reducible refine LeO.ite ?_ ?_)
      | (with_reducible refine LeO.bind ?_ (fun _ => ?_))
      | exact ih0 _ _ _ _ _ _ _
      | exact ih1 _ _ _ _ _ _ _ _ _ _
      | exact series_Cut.mono _ _ _ _ _ _
      | exact series_Starts.mono _ _ _ _ _
      | exact series_Window.mono _ _ _ _ _ _
      | exact shapesearchkeep_Inside.mono _ _ _
      | exact shapesearchkeep_Ints.mono _ _ _
      | exact shapesearchkeep_Src_Series.mono _ _ _ _
      | exact shapesearchlaw09_awake.mono _
      | exact LeO.none _
      | refine LeO.ite ?_ ?_
      | refine LeO.bind ?_ (fun _ => ?_)
def shapesearchlaw09_SeriesLonger.T3 : Bool × List (List Nat × List Nat) := (true, [([], []), ([], []), ([1], [1]), ([0, 2], [0, 2]), ([], []), ([], []), ([4, 5, 3], [4, 5]), ([3, 6, 0, 1, 2, 3], [3]), ([6, 7, 0, 1, 2, 3, 4, 5, 6, 7], [6])])
def shapesearchlaw09_SeriesLonger.B3 : List Nat := [0, 0, 2, 7, 0, 0, 63, 127, 255]
theorem shapesearchlaw09_SeriesLonger.tab3 : rtab .any (opsOf Try.f4 3) = shapesearchlaw09_SeriesLonger.T3 := by kernel_rfl
theorem shapesearchlaw09_SeriesLonger.bits3 : waitsOk shapesearchlaw09_SeriesLonger.T3.2 shapesearchlaw09_SeriesLonger.B3 = true := by kernel_rfl
set_option maxHeartbeats 8000000 in
set_option maxRecDepth 100000 in
theorem shapesearchlaw09_SeriesLonger.calls (k : Nat) (A0 : Option Addr) (c0 : Nat) (l0 : List Int) (a1 : Int) (a2 : Int) (a3 : Int) (r : Bool) (w : World) (hr0 : Kd.C (Kd.int .i64) w A0 l0.length l0) (hc0 : l0.length ≤ c0) (h : shapesearchlaw09_SeriesLonger.f k l0 a1 a2 a3 = some r) :
    Calls Try.prog 4 #[.slice A0 l0.length c0, .int .u8 a1, .int .u8 a2, .int .u8 a3] w fun e w' => e = .returned (.bool r) ∧ Below w.heap.size w w' := by
  have hu24 := Try.underlying24
  have HR0 := Aside0.mk hr0
  have HC0 := Aside0.mk hc0
  clear hr0 hc0
  have HB := Aside0.mk (Below.refl w.heap.size w)
  have H : ((shapesearchkeep_New.f l0).bind fun bt248 => ((shapesearchkeep_Src_Series.f k bt248.1 bt248.2 40).bind fun bt251 => ((series_Starts.f k bt251.1 bt251.2.1 bt251.2.2.1 (wrap64 ((wrap64 (1 + (Int.tmod (wrap64 (a1)) 8))) + 1))).bind fun t258 => ((series_Starts.f k bt251.1 bt251.2.1 bt251.2.2.1 (wrap64 (1 + (Int.tmod (wrap64 (a1)) 8)))).bind fun t261 => ((shapesearchkeep_Inside.f k t258 t261).bind fun t264 => (if t264 = true then (shapesearchlaw09_SeriesLonger.j0 k a2 a3 (wrap64 (1 + (Int.tmod (wrap64 (a1)) 8))) (decide ((t258.length : Int) > (t261.length : Int))) bt251.1 bt251.2.1 bt251.2.2.1) else (shapesearchlaw09_SeriesLonger.j0 k a2 a3 (wrap64 (1 + (Int.tmod (wrap64 (a1)) 8))) true bt251.1 bt251.2.1 bt251.2.2.1))))))) = some r := h
  clear h
  replace H := Option.bind_eq_some_iff.mp H
  obtain ⟨⟨t248, t249⟩, A50, H⟩ := H
  replace H : ((shapesearchkeep_Src_Series.f k t248 t249 40).bind fun bt251 => ((series_Starts.f k bt251.1 bt251.2.1 bt251.2.2.1 (wrap64 ((wrap64 (1 + (Int.tmod (wrap64 (a1)) 8))) + 1))).bind fun t258 => ((series_Starts.f k bt251.1 bt251.2.1 bt251.2.2.1 (wrap64 (1 + (Int.tmod (wrap64 (a1)) 8)))).bind fun t261 => ((shapesearchkeep_Inside.f k t258 t261).bind fun t264 => (if t264 = true then (shapesearchlaw09_SeriesLonger.j0 k a2 a3 (wrap64 (1 + (Int.tmod (wrap64 (a1)) 8))) (decide ((t258.length : Int) > (t261.length : Int))) bt251.1 bt251.2.1 bt251.2.2.1) else (shapesearchlaw09_SeriesLonger.j0 k a2 a3 (wrap64 (1 + (Int.tmod (wrap64 (a1)) 8))) true bt251.1 bt251.2.1 bt251.2.2.1)))))) = some r := H
  have A5 := Aside0.mk A50
  clear A50
  replace H := Option.bind_eq_some_iff.mp H
  obtain ⟨⟨t251, t252, t253, t256⟩, A60, H⟩ := H
  replace H : ((series_Starts.f k t251 t252 t253 (wrap64 ((wrap64 (1 + (Int.tmod (wrap64 (a1)) 8))) + 1))).bind fun t258 => ((series_Starts.f k t251 t252 t253 (wrap64 (1 + (Int.tmod (wrap64 (a1)) 8)))).bind fun t261 => ((shapesearchkeep_Inside.f k t258 t261).bind fun t264 => (if t264 = true then (shapesearchlaw09_SeriesLonger.j0 k a2 a3 (wrap64 (1 + (Int.tmod (wrap64 (a1)) 8))) (decide ((t258.length : Int) > (t261.length : Int))) t251 t252 t253) else (shapesearchlaw09_SeriesLonger.j0 k a2 a3 (wrap64 (1 + (Int.tmod (wrap64 (a1)) 8))) true t251 t252 t253))))) = some r := H
  have A6 := Aside0.mk A60
  clear A60
  replace H := Option.bind_eq_some_iff.mp H
  obtain ⟨t258, A70, H⟩ := H
  replace H : ((series_Starts.f k t251 t252 t253 (wrap64 (1 + (Int.tmod (wrap64 (a1)) 8)))).bind fun t261 => ((shapesearchkeep_Inside.f k t258 t261).bind fun t264 => (if t264 = true then (shapesearchlaw09_SeriesLonger.j0 k a2 a3 (wrap64 (1 + (Int.tmod (wrap64 (a1)) 8))) (decide ((t258.length : Int) > (t261.length : Int))) t251 t252 t253) else (shapesearchlaw09_SeriesLonger.j0 k a2 a3 (wrap64 (1 + (Int.tmod (wrap64 (a1)) 8))) true t251 t252 t253)))) = some r := H
  have A7 := Aside0.mk A70
  clear A70
  replace H := Option.bind_eq_some_iff.mp H
  obtain ⟨t261, A80, H⟩ := H
  replace H : ((shapesearchkeep_Inside.f k t258 t261).bind fun t264 => (if t264 = true then (shapesearchlaw09_SeriesLonger.j0 k a2 a3 (wrap64 (1 + (Int.tmod (wrap64 (a1)) 8))) (decide ((t258.length : Int) > (t261.length : Int))) t251 t252 t253) else (shapesearchlaw09_SeriesLonger.j0 k a2 a3 (wrap64 (1 + (Int.tmod (wrap64 (a1)) 8))) true t251 t252 t253))) = some r := H
  have A8 := Aside0.mk A80
  clear A80
  have HC9 := Aside0.mk H
  clear H
  go_enter Try.func4, Try.ntmps4
  try go_wp2_with (first | ((with_reducible refine gate_callee (f := 9) rfl ?_); refine goesL_ (some 22) rfl rfl Try.func9 (by kernel_rfl) rfl #[.slice A0 l0.length c0] rfl (by (try simp only [List.map_toArray, List.map_cons, List.map_nil]); first | done | rfl | (simp only [List.length_drop, List.length_take]; rfl)) ?_; (with_reducible refine (shapesearchkeep_New.calls _ _ l0 t248 t249 w _ ?side1 ?side2 ?side3 A5.out).mono ?_); (case side1 => repeat (first | (with_reducible first | exact HB.out | apply below_alloc | apply pw_below_drewN | apply below_drew1) | exact HB.out)); (case side2 => exact HR0.out); (case side3 => exact HC0.out); rintro e w10 ⟨g250, rfl, hi, hb, hb2⟩; refine ⟨_, rfl, ?_⟩; have n0_ := Aside0.mk (hb); have n1_ := Aside0.mk (hi); clear HB; have HB := n0_; have HI250 := n1_; clear n0_ n1_; (try clear hb); (try clear hb2); (try clear hk); (try clear hi)) | ((with_reducible refine gate_callee (f := 10) rfl ?_); refine goesL_ (some 23) rfl rfl Try.func10 (by kernel_rfl) rfl #[.pointer (some ⟨g250, 0, none⟩), .int .i64 40] rfl (by (try simp only [List.map_toArray, List.map_cons, List.map_nil]); first | done | rfl | (simp only [List.length_drop, List.length_take]; rfl)) ?_; (with_reducible refine (shapesearchkeep_Src_Series.calls k g250 t248 t249 40 t251 t252 t253 t256 w _ ?side1 ?side2 A6.out).mono ?_); (case side1 => repeat (first | (with_reducible first | exact HI250.out | apply IsS57.alloc | apply IsS57.drewN | apply IsS57.drew | apply IsS57.set_1) | exact HI250.out)); (case side2 => repeat (first | (with_reducible first | exact HB.out | apply below_alloc | apply pw_below_drewN | apply below_drew1 | refine below_set ?_ (IsS57.ge HI250.out)) | exact HB.out)); rintro e w11 ⟨v254, rfl, ho0, hi, hb, hk⟩; refine ⟨_, rfl, ?_⟩; have n0_ := Aside0.mk (Kd.R_lower ho0 (below_size (by repeat (first | (with_reducible first | exact HB.out | apply below_alloc | apply pw_below_drewN | apply below_drew1 | refine below_set ?_ (IsS57.ge HI250.out)) | exact HB.out)))); have n1_ := Aside0.mk (hb); have n2_ := Aside0.mk (hi); clear HB; clear HI250; have HO255 := n0_; have HB := n1_; have HI250 := n2_; clear n0_ n1_ n2_; (try clear hb); (try clear hb2); (try clear hk); (try clear hi); (try clear ho0)) | ((with_reducible refine gate_dst (N := 9) rfl ?_); (try (refine gate_guard (by rfl) ?_; dsimp only)); refine box_event ?hg (N := 9) ?hd (cs := #[.int .i64 0, .int .i64 0, .slice none 0 0]) (t := 24) ?hr ?_; (case hd => rfl); (case hg => rfl); (case hr => first | (go_simp; done) | (go_simp; rfl)); intro gb257 hg w12 hbox hb; have n0_ := Aside0.mk (Kd.R_below (by (with_reducible repeat (first | apply Kd.R_alloc | apply Kd.R_drewN | apply Kd.R_drew)); exact HO255.out) hb); have n1_ := Aside0.mk (IsS57.below (by repeat (first | (with_reducible first | exact HI250.out | apply IsS57.alloc | apply IsS57.drewN | apply IsS57.drew | apply IsS57.set_1) | exact HI250.out)) hb); have n2_ := Aside0.mk (below_step (by repeat (first | (with_reducible first | exact HB.out | apply below_alloc | apply pw_below_drewN | apply below_drew1 | refine below_set ?_ (IsS57.ge HI250.out)) | exact HB.out)) hb); have n3_ := Aside0.mk (hbox); have n4_ := Aside0.mk ((by rw [hg]; exact (below_size (by repeat (first | (with_reducible first | exact HB.out | apply below_alloc | apply pw_below_drewN | apply below_drew1 | refine below_set ?_ (IsS57.ge HI250.out)) | exact HB.out))) : w.heap.size ≤ gb257)); have n5_ := Aside0.mk ((by rw [hg]; exact (below_size (by repeat (first | (with_reducible first | exact HB.out | apply below_alloc | apply pw_below_drewN | apply below_drew1 | refine below_set ?_ (IsS57.ge HI250.out)) | exact HB.out))) : w.heap.size ≤ gb257)); have n6_ := Aside0.mk ((by rw [hg]; exact Nat.ne_of_lt (IsS57.lt (show IsS57 w _ g250 t248 t256 from by repeat (first | (with_reducible first | exact HI250.out | apply IsS57.alloc | apply IsS57.drewN | apply IsS57.drew | apply IsS57.set_1) | exact HI250.out))) : g250 ≠ gb257)); have n7_ := Aside0.mk ((by rw [hg]; exact Nat.ne_of_gt (IsS57.lt (show IsS57 w _ g250 t248 t256 from by repeat (first | (with_reducible first | exact HI250.out | apply IsS57.alloc | apply IsS57.drewN | apply IsS57.drew | apply IsS57.set_1) | exact HI250.out))) : gb257 ≠ g250)); clear HO255; clear HI250; clear HB; have HO255 := n0_; have HI250 := n1_; have HB := n2_; have BK257 := n3_; have GW257 := n4_; have GE257 := n5_; have NB250_257 := n6_; have NB257_250 := n7_; clear n0_ n1_ n2_ n3_ n4_ n5_ n6_ n7_; clear hb hbox hg; have hnb13 := NB257_250.out; have hnc13 := NB250_257.out; have hcz14_0 : w12.cell? ⟨gb257, 0, none⟩ = some (.int .i64 0) := (blk_cell BK257.out 0).trans rfl; have hcz14_1 : w12.cell? ⟨gb257, 1, none⟩ = some (.int .i64 0) := (blk_cell BK257.out 1).trans rfl; have hcz14_2 : w12.cell? ⟨gb257, 2, none⟩ = some (.slice none 0 0) := (blk_cell BK257.out 2).trans rfl; have hfz14_0 := blk_frozen BK257.out 0; have hfz14_1 := blk_frozen BK257.out 1; have hfz14_2 := blk_frozen BK257.out 2; obtain ⟨Ao15, co15, eo15⟩ := Kd.R_slice HO255.out; subst eo15))
  have n0_ : Aside0 (Kd.R (Kd.int .i64) 3 (((w12.setCell ⟨gb257, 0, none⟩ (.int .i64 t251)).setCell ⟨gb257, 1, none⟩ (.int .i64 t252)).setCell ⟨gb257, 2, none⟩ (.slice Ao15 t253.length co15)) w.heap.size (fun _ => True) (.slice Ao15 t253.length co15) t253) := ⟨by (with_reducible repeat (first | apply Kd.R_alloc | apply Kd.R_drewN | apply Kd.R_drew)); exact Kd.R_mono (Kd.R_far (p := ⟨gb257, 2, none⟩) (Kd.R_far (p := ⟨gb257, 1, none⟩) (Kd.R_far (p := ⟨gb257, 0, none⟩) (Kd.R_types HO255.out BK257.out (by decide)) (fun _ hk => hk.2) (.int .i64 t251)) (fun _ hk => hk.2) (.int .i64 t252)) (fun _ hk => hk.2) (.slice Ao15 t253.length co15)) (fun _ hk => trivial)⟩
  have n1_ : Aside0 ((((w12.setCell ⟨gb257, 0, none⟩ (.int .i64 t251)).setCell ⟨gb257, 1, none⟩ (.int .i64 t252)).setCell ⟨gb257, 2, none⟩ (.slice Ao15 t253.length co15)).heap[gb257]? = some (.cells #[.int .i64 t251, .int .i64 t252, .slice Ao15 t253.length co15] 24 (0, 0))) := ⟨by (with_reducible repeat (first | refine blk_drewN ?_ _ | refine blk_drew ?_ | refine blk_alloc ?_ _)); refine blk_put (cs := #[.int .i64 t251, .int .i64 t252, .slice none 0 0]) ?_ 2 _ rfl; (with_reducible repeat (first | refine blk_drewN ?_ _ | refine blk_drew ?_ | refine blk_alloc ?_ _)); refine blk_put (cs := #[.int .i64 t251, .int .i64 0, .slice none 0 0]) ?_ 1 _ rfl; (with_reducible repeat (first | refine blk_drewN ?_ _ | refine blk_drew ?_ | refine blk_alloc ?_ _)); refine blk_put (cs := #[.int .i64 0, .int .i64 0, .slice none 0 0]) ?_ 0 _ rfl; (with_reducible repeat (first | refine blk_drewN ?_ _ | refine blk_drew ?_ | refine blk_alloc ?_ _)); exact BK257.out⟩
  have n2_ : Aside0 (IsS57 w (((w12.setCell ⟨gb257, 0, none⟩ (.int .i64 t251)).setCell ⟨gb257, 1, none⟩ (.int .i64 t252)).setCell ⟨gb257, 2, none⟩ (.slice Ao15 t253.length co15)) g250 t248 t256) := ⟨by repeat (first | (with_reducible first | exact HI250.out | apply IsS57.alloc | apply IsS57.drewN | apply IsS57.drew | apply IsS57.set_1 | refine IsS57.far ?_ NB250_257.out _) | exact HI250.out)⟩
  have n3_ : Aside0 (Below w.heap.size w (((w12.setCell ⟨gb257, 0, none⟩ (.int .i64 t251)).setCell ⟨gb257, 1, none⟩ (.int .i64 t252)).setCell ⟨gb257, 2, none⟩ (.slice Ao15 t253.length co15))) := ⟨by repeat (first | (with_reducible first | exact HB.out | apply below_alloc | apply pw_below_drewN | apply below_drew1 | refine below_set ?_ (IsS57.ge HI250.out) | refine below_set ?_ GE257.out) | exact HB.out)⟩
  (try clear HO255)
  (try clear BK257)
  (try clear HI250)
  (try clear HB)
  generalize (((w12.setCell ⟨gb257, 0, none⟩ (.int .i64 t251)).setCell ⟨gb257, 1, none⟩ (.int .i64 t252)).setCell ⟨gb257, 2, none⟩ (.slice Ao15 t253.length co15)) = w16 at n0_ n1_ n2_ n3_ ⊢
  have HO255 := n0_
  have BK257 := n1_
  have HI250 := n2_
  have HB := n3_
  clear n0_ n1_ n2_ n3_
  have n0_ := Aside0.mk (Kd.R_drew HO255.out)
  have n1_ := Aside0.mk (blk_drew BK257.out)
  have n2_ := Aside0.mk (IsS57.drew HI250.out)
  have n3_ := Aside0.mk (below_drew1 HB.out)
  clear HO255
  clear BK257
  clear HI250
  clear HB
  have HO255 := n0_
  have BK257 := n1_
  have HI250 := n2_
  have HB := n3_
  clear n0_ n1_ n2_ n3_
  refine start_ (n := 9) (S := fun w' => w'.cell? ⟨gb257, 0, none⟩ = some (.int .i64 t251) ∧ w'.cell? ⟨gb257, 1, none⟩ = some (.int .i64 t252) ∧ w'.cell? ⟨gb257, 2, none⟩ = some (.slice Ao15 t253.length co15)) (ds := []) #[false, false, false, false, false, false, false, false, false] (by kernel_rfl) rfl rfl ⟨(blk_cell BK257.out 0).trans rfl, (blk_cell BK257.out 1).trans rfl, (blk_cell BK257.out 2).trans rfl⟩ (fun hHeld => ?_); refine with_tabW shapesearchlaw09_SeriesLonger.tab3 shapesearchlaw09_SeriesLonger.bits3 (fun HT_ HW_ => ?_)
  generalize w16.drew = w17 at HO255 BK257 HI250 HB hHeld ⊢
  refine pure_ (i := 1) (N := some 29) (v := ?_) (a' := ?_) #[false, true, false, false, false, false, false, false, false] rfl rfl (any_of HT_.out (by kernel_rfl)) (fun _ _ _ h => h) (Or.inl ⟨by rfl, ?_⟩) ?_ ?_
  rotate_left
  · intro w'
    go_simp
    with_reducible rfl
  rotate_left
  · simp only [Act.put, List.setIfInBounds_toArray, List.set_cons_zero, List.set_cons_succ, i64_w, i32_w]
    rfl
  refine pure_ (i := 2) (N := some 30) (v := ?_) (a' := ?_) #[false, true, true, false, false, false, false, false, false] rfl rfl (any_of HT_.out (by kernel_rfl)) (fun _ _ _ h => h) (Or.inl ⟨by rfl, ?_⟩) ?_ ?_
  rotate_left
  · intro w'
    go_simp
    with_reducible rfl
  rotate_left
  · simp only [Act.put, List.setIfInBounds_toArray, List.set_cons_zero, List.set_cons_succ, i64_w, i32_w]
    rfl
  refine pure_ (i := 5) (N := some 33) (v := ?_) (a' := ?_) #[false, true, true, false, false, true, false, false, false] rfl rfl (any_of HT_.out (by kernel_rfl)) (fun _ _ _ h => h) (Or.inl ⟨by rfl, ?_⟩) ?_ ?_
  rotate_left
  · intro w'
    go_simp
    with_reducible rfl
  rotate_left
  · simp only [Act.put, List.setIfInBounds_toArray, List.set_cons_zero, List.set_cons_succ, i64_w, i32_w]
    rfl
  refine take_ (i := 0) (N := some 28) (v := ?_) (a' := ?_) #[true, true, true, false, false, true, false, false, false] rfl rfl (take_ofW HT_.out HW_.out (by kernel_rfl)) (fun _ _ _ h => h) (Or.inl ⟨by rfl, ?_⟩) hHeld ?_ ?_
  rotate_left
  · rintro w' ⟨s0, s1, s2⟩
    go_simp
    with_reducible rfl
  rotate_left
  · simp only [Act.put, List.setIfInBounds_toArray, List.set_cons_zero, List.set_cons_succ, i64_w, i32_w]
    rfl
  refine take_ (i := 4) (N := some 32) (v := ?_) (a' := ?_) #[true, true, true, false, true, true, false, false, false] rfl rfl (take_ofW HT_.out HW_.out (by kernel_rfl)) (fun _ _ _ h => h) (Or.inl ⟨by rfl, ?_⟩) hHeld ?_ ?_
  rotate_left
  · rintro w' ⟨s0, s1, s2⟩
    go_simp
    with_reducible rfl
  rotate_left
  · simp only [Act.put, List.setIfInBounds_toArray, List.set_cons_zero, List.set_cons_succ, i64_w, i32_w]
    rfl
  refine one_ (i := 3) (N := some 31) #[true, true, true, true, true, true, false, false, false] rfl rfl (one_of HT_.out (by kernel_rfl)) (by decide) (fun K hK => ?_)
  refine goes_ Try.func11 (by kernel_rfl) rfl #[.agg #[.int .i64 t251, .int .i64 t252, .slice Ao15 t253.length co15], .int .i64 (wrap64 ((wrap64 (1 + (Int.tmod (wrap64 (a1)) 8))) + 1))] (by rfl) rfl rfl (by (try simp only [List.map_toArray, List.map_cons, List.map_nil]); first | done | rfl | (simp only [List.length_drop, List.length_take]; rfl)) ?_
  with_reducible refine (series_Starts.calls k t251 t252 _ _ t253 (wrap64 ((wrap64 (1 + (Int.tmod (wrap64 (a1)) 8))) + 1)) t258 _ ?side1 ?side2 A7.out).mono ?_
  (case side1 => repeat (first | exact (Kd.R_reads' HO255.out).2.2 | (with_reducible refine Kd.C_alloc ?_ _) | (with_reducible refine Kd.C_drewN ?_ _) | (with_reducible refine Kd.C_drew ?_)))
  (case side2 => exact (Kd.R_reads' HO255.out).2.1)
  rintro e w18 ⟨v259, rfl, ho0, hb⟩
  refine ⟨_, rfl, ?_⟩
  have n0_ := Aside0.mk (Kd.R_elder' (by (with_reducible repeat (first | apply Kd.R_alloc | apply Kd.R_drewN | apply Kd.R_drew)); exact HO255.out) (Kd.R_base ho0) hb)
  have n1_ := Aside0.mk (Kd.R_lower (Kd.R_new' ho0 (Kd.R_lt (by (with_reducible repeat (first | apply Kd.R_alloc | apply Kd.R_drewN | apply Kd.R_drew)); exact HO255.out))) (below_size (by repeat (first | (with_reducible first | exact HB.out | apply below_alloc | apply pw_below_drewN | apply below_drew1 | refine below_set ?_ (IsS57.ge HI250.out) | refine below_set ?_ GE257.out) | exact HB.out))))
  have n2_ := Aside0.mk (IsS57.below (by repeat (first | (with_reducible first | exact HI250.out | apply IsS57.alloc | apply IsS57.drewN | apply IsS57.drew | apply IsS57.set_1 | refine IsS57.far ?_ NB250_257.out _) | exact HI250.out)) hb)
  have n3_ := Aside0.mk (blk_below (g := gb257) (o := .cells #[.int .i64 t251, .int .i64 t252, .slice Ao15 t253.length co15] 24 (0, 0)) (by (with_reducible repeat (first | refine blk_drewN ?_ _ | refine blk_drew ?_ | refine blk_alloc ?_ _)); exact BK257.out) hb)
  have n4_ := Aside0.mk (below_step (by repeat (first | (with_reducible first | exact HB.out | apply below_alloc | apply pw_below_drewN | apply below_drew1 | refine below_set ?_ (IsS57.ge HI250.out) | refine below_set ?_ GE257.out) | exact HB.out)) hb)
  clear HO255
  clear HI250
  clear BK257
  clear HB
  have HO255 := n0_
  have HO260 := n1_
  have HI250 := n2_
  have BK257 := n3_
  have HB := n4_
  clear n0_ n1_ n2_ n3_ n4_
  (try clear hb)
  (try clear hb2)
  (try clear hk)
  (try clear hi)
  (try clear ho0)
  refine hK.out _ _ ⟨(blk_cell BK257.out 0).trans rfl, (blk_cell BK257.out 1).trans rfl, (blk_cell BK257.out 2).trans rfl⟩ (fun hHeld => ?_)
  clear hK K
  refine norm_ (a' := ?_) ?_ ?_
  rotate_left
  · show Act.put _ (some 31) _ = _
    simp only [Act.put, List.setIfInBounds_toArray, List.set_cons_zero, List.set_cons_succ, i64_w, i32_w]
    rfl
  refine one_ (i := 6) (N := some 34) #[true, true, true, true, true, true, true, false, false] rfl rfl (one_of HT_.out (by kernel_rfl)) (by decide) (fun K hK => ?_)
  refine goes_ Try.func11 (by kernel_rfl) rfl #[.agg #[.int .i64 t251, .int .i64 t252, .slice Ao15 t253.length co15], .int .i64 (wrap64 (1 + (Int.tmod (wrap64 (a1)) 8)))] (by rfl) rfl rfl (by (try simp only [List.map_toArray, List.map_cons, List.map_nil]); first | done | rfl | (simp only [List.length_drop, List.length_take]; rfl)) ?_
  with_reducible refine (series_Starts.calls k t251 t252 _ _ t253 (wrap64 (1 + (Int.tmod (wrap64 (a1)) 8))) t261 _ ?side1 ?side2 A8.out).mono ?_
  (case side1 => repeat (first | exact (Kd.R_reads' HO255.out).2.2 | (with_reducible refine Kd.C_alloc ?_ _) | (with_reducible refine Kd.C_drewN ?_ _) | (with_reducible refine Kd.C_drew ?_)))
  (case side2 => exact (Kd.R_reads' HO255.out).2.1)
  rintro e w19 ⟨v262, rfl, ho0, hb⟩
  refine ⟨_, rfl, ?_⟩
  have n0_ := Aside0.mk (Kd.R_elder' (by (with_reducible repeat (first | apply Kd.R_alloc | apply Kd.R_drewN | apply Kd.R_drew)); exact HO255.out) (Kd.R_base ho0) hb)
  have n1_ := Aside0.mk (Kd.R_elder' (by (with_reducible repeat (first | apply Kd.R_alloc | apply Kd.R_drewN | apply Kd.R_drew)); exact HO260.out) (Kd.R_base ho0) hb)
  have n2_ := Aside0.mk (Kd.R_lower (Kd.R_new' (Kd.R_new' ho0 (Kd.R_lt (by (with_reducible repeat (first | apply Kd.R_alloc | apply Kd.R_drewN | apply Kd.R_drew)); exact HO255.out))) (Kd.R_lt (by (with_reducible repeat (first | apply Kd.R_alloc | apply Kd.R_drewN | apply Kd.R_drew)); exact HO260.out))) (below_size (by repeat (first | (with_reducible first | exact HB.out | apply below_alloc | apply pw_below_drewN | apply below_drew1 | refine below_set ?_ (IsS57.ge HI250.out) | refine below_set ?_ GE257.out) | exact HB.out))))
  have n3_ := Aside0.mk (IsS57.below (by repeat (first | (with_reducible first | exact HI250.out | apply IsS57.alloc | apply IsS57.drewN | apply IsS57.drew | apply IsS57.set_1 | refine IsS57.far ?_ NB250_257.out _) | exact HI250.out)) hb)
  have n4_ := Aside0.mk (blk_below (g := gb257) (o := .cells #[.int .i64 t251, .int .i64 t252, .slice Ao15 t253.length co15] 24 (0, 0)) (by (with_reducible repeat (first | refine blk_drewN ?_ _ | refine blk_drew ?_ | refine blk_alloc ?_ _)); exact BK257.out) hb)
  have n5_ := Aside0.mk (below_step (by repeat (first | (with_reducible first | exact HB.out | apply below_alloc | apply pw_below_drewN | apply below_drew1 | refine below_set ?_ (IsS57.ge HI250.out) | refine below_set ?_ GE257.out) | exact HB.out)) hb)
  clear HO255
  clear HO260
  clear HI250
  clear BK257
  clear HB
  have HO255 := n0_
  have HO260 := n1_
  have HO263 := n2_
  have HI250 := n3_
  have BK257 := n4_
  have HB := n5_
  clear n0_ n1_ n2_ n3_ n4_ n5_
  (try clear hb)
  (try clear hb2)
  (try clear hk)
  (try clear hi)
  (try clear ho0)
  refine hK.out _ _ ⟨(blk_cell BK257.out 0).trans rfl, (blk_cell BK257.out 1).trans rfl, (blk_cell BK257.out 2).trans rfl⟩ (fun hHeld => ?_)
  clear hK K
  refine norm_ (a' := ?_) ?_ ?_
  rotate_left
  · show Act.put _ (some 34) _ = _
    simp only [Act.put, List.setIfInBounds_toArray, List.set_cons_zero, List.set_cons_succ, i64_w, i32_w]
    rfl
  refine pure_ (i := 7) (N := some 11) (v := ?_) (a' := ?_) #[true, true, true, true, true, true, true, true, false] rfl rfl (any_of HT_.out (by kernel_rfl)) (fun _ _ _ h => h) (Or.inl ⟨by rfl, ?_⟩) ?_ ?_
  rotate_left
  · intro w'
    go_simp
    with_reducible rfl
  rotate_left
  · simp only [Act.put, List.setIfInBounds_toArray, List.set_cons_zero, List.set_cons_succ, i64_w, i32_w]
    rfl
  refine pure_ (i := 8) (N := some 12) (v := ?_) (a' := ?_) #[true, true, true, true, true, true, true, true, true] rfl rfl (any_of HT_.out (by kernel_rfl)) (fun _ _ _ h => h) (Or.inl ⟨by rfl, ?_⟩) ?_ ?_
  rotate_left
  · intro w'
    go_simp
    with_reducible rfl
  rotate_left
  · simp only [Act.put, List.setIfInBounds_toArray, List.set_cons_zero, List.set_cons_succ, i64_w, i32_w]
    rfl
  refine done_ (done_of HT_.out (by kernel_rfl)) ?_
  go_upto_region 4 with (fail)
  go_cut [45] (fun v45 wc => ∃ (kq : Nat) (x45_8 : Bool), v45 = .bool x45_8 ∧ Aside0 (shapesearchlaw09_SeriesLonger.j0 kq a2 a3 (wrap64 (1 + (Int.tmod (wrap64 (a1)) 8))) x45_8 t251 t252 t253 = some r) ∧ Aside0 (kq ≤ k) ∧ Aside0 (Kd.R (Kd.int .i64) 3 wc w.heap.size (fun _ => True) (.slice Ao15 t253.length co15) t253) ∧ Aside0 (wc.heap[gb257]? = some (.cells #[.int .i64 t251, .int .i64 t252, (.slice Ao15 t253.length co15)] 24 (0, 0))) ∧ Aside0 (Below w.heap.size w wc))
  case first =>
    have H := HC9.out
    clear HC9
    replace H := Option.bind_eq_some_iff.mp H
    obtain ⟨t264, A200, H⟩ := H
    replace H : (if t264 = true then (shapesearchlaw09_SeriesLonger.j0 k a2 a3 (wrap64 (1 + (Int.tmod (wrap64 (a1)) 8))) (decide ((t258.length : Int) > (t261.length : Int))) t251 t252 t253) else (shapesearchlaw09_SeriesLonger.j0 k a2 a3 (wrap64 (1 + (Int.tmod (wrap64 (a1)) 8))) true t251 t252 t253)) = some r := H
    have A20 := Aside0.mk A200
    clear A200
    by_cases c21 : t264 = true
    · subst c21
      have H1 : (shapesearchlaw09_SeriesLonger.j0 k a2 a3 (wrap64 (1 + (Int.tmod (wrap64 (a1)) 8))) (decide ((t258.length : Int) > (t261.length : Int))) t251 t252 t253) = some r := by rw [if_pos rfl] at H; exact H
      clear H
      have H := H1
      clear H1
      have H' := Aside0.mk H
      clear H
      obtain ⟨Ao22, co22, eo22⟩ := Kd.R_slice HO260.out
      subst eo22
      obtain ⟨Ao23, co23, eo23⟩ := Kd.R_slice HO263.out
      subst eo23
      go_wp2_with (first | ((with_reducible refine gate_callee (f := 16) rfl ?_); refine goesL_ (some 37) rfl rfl Try.func16 (by kernel_rfl) rfl #[.slice Ao22 t258.length co22, .slice Ao23 t261.length co23] rfl (by (try simp only [List.map_toArray, List.map_cons, List.map_nil]); first | done | rfl | (simp only [List.length_drop, List.length_take]; rfl)) ?_; (with_reducible refine (shapesearchkeep_Inside.calls k _ _ t258 _ _ t261 true _ ?side1 ?side2 ?side3 ?side4 A20.out).mono ?_); (case side1 => repeat (first | exact (Kd.R_reads' HO260.out).2.2 | (with_reducible refine Kd.C_alloc ?_ _) | (with_reducible refine Kd.C_drewN ?_ _) | (with_reducible refine Kd.C_drew ?_))); (case side2 => exact (Kd.R_reads' HO260.out).2.1); (case side3 => repeat (first | exact (Kd.R_reads' HO263.out).2.2 | (with_reducible refine Kd.C_alloc ?_ _) | (with_reducible refine Kd.C_drewN ?_ _) | (with_reducible refine Kd.C_drew ?_))); (case side4 => exact (Kd.R_reads' HO263.out).2.1); rintro e w' ⟨rfl, ⟨nd, rfl⟩⟩; refine ⟨_, rfl, ?_⟩))
      go_meet
      case rel => exact ⟨_, (decide ((t258.length : Int) > (t261.length : Int))), (by first | rfl | (simp; done) | (simp [*]; done)), H', ⟨by first | omega | exact Nat.le_refl _⟩, ⟨by (with_reducible repeat (first | apply Kd.R_alloc | apply Kd.R_drewN | apply Kd.R_drew)); exact Kd.R_mono HO255.out (fun _ hk => trivial)⟩, ⟨by (with_reducible repeat (first | refine blk_drewN ?_ _ | refine blk_drew ?_ | refine blk_alloc ?_ _)); exact BK257.out⟩, ⟨by repeat (first | (with_reducible first | exact HB.out | apply below_alloc | apply pw_below_drewN | apply below_drew1 | refine below_set ?_ (IsS57.ge HI250.out) | refine below_set ?_ GE257.out) | exact HB.out)⟩⟩
    · replace c21 := Bool.eq_false_iff.mpr c21
      subst c21
      have H1 : (shapesearchlaw09_SeriesLonger.j0 k a2 a3 (wrap64 (1 + (Int.tmod (wrap64 (a1)) 8))) true t251 t252 t253) = some r := by rw [if_neg (show ¬ (false = true) by decide)] at H; exact H
      clear H
      have H := H1
      clear H1
      have H' := Aside0.mk H
      clear H
      obtain ⟨Ao24, co24, eo24⟩ := Kd.R_slice HO260.out
      subst eo24
      obtain ⟨Ao25, co25, eo25⟩ := Kd.R_slice HO263.out
      subst eo25
      go_wp2_with (first | ((with_reducible refine gate_callee (f := 16) rfl ?_); refine goesL_ (some 37) rfl rfl Try.func16 (by kernel_rfl) rfl #[.slice Ao24 t258.length co24, .slice Ao25 t261.length co25] rfl (by (try simp only [List.map_toArray, List.map_cons, List.map_nil]); first | done | rfl | (simp only [List.length_drop, List.length_take]; rfl)) ?_; (with_reducible refine (shapesearchkeep_Inside.calls k _ _ t258 _ _ t261 false _ ?side1 ?side2 ?side3 ?side4 A20.out).mono ?_); (case side1 => repeat (first | exact (Kd.R_reads' HO260.out).2.2 | (with_reducible refine Kd.C_alloc ?_ _) | (with_reducible refine Kd.C_drewN ?_ _) | (with_reducible refine Kd.C_drew ?_))); (case side2 => exact (Kd.R_reads' HO260.out).2.1); (case side3 => repeat (first | exact (Kd.R_reads' HO263.out).2.2 | (with_reducible refine Kd.C_alloc ?_ _) | (with_reducible refine Kd.C_drewN ?_ _) | (with_reducible refine Kd.C_drew ?_))); (case side4 => exact (Kd.R_reads' HO263.out).2.1); rintro e w' ⟨rfl, ⟨nd, rfl⟩⟩; refine ⟨_, rfl, ?_⟩))
      go_meet
      case rel => exact ⟨_, (true), (by first | rfl | (simp; done) | (simp [*]; done)), H', ⟨by first | omega | exact Nat.le_refl _⟩, ⟨by (with_reducible repeat (first | apply Kd.R_alloc | apply Kd.R_drewN | apply Kd.R_drew)); exact Kd.R_mono HO255.out (fun _ hk => trivial)⟩, ⟨by (with_reducible repeat (first | refine blk_drewN ?_ _ | refine blk_drew ?_ | refine blk_alloc ?_ _)); exact BK257.out⟩, ⟨by repeat (first | (with_reducible first | exact HB.out | apply below_alloc | apply pw_below_drewN | apply below_drew1 | refine below_set ?_ (IsS57.ge HI250.out) | refine below_set ?_ GE257.out) | exact HB.out)⟩⟩
  case rest =>
    clear HC9
    try clear c1
    try clear c2
    try clear p2
    try clear c4
    try clear p6
    try clear c9
    try clear c10
    try clear c11
    try clear c13
    try clear c16
    try clear c21
    try clear hcz14_0
    try clear hcz14_1
    try clear hcz14_2
    try clear hfz14_0
    try clear hfz14_1
    try clear hfz14_2
    obtain ⟨kq, x45_8, rfl, HA, HJ8, HO_258002, BK257, HB⟩ := hcut
    cases kq with
    | zero => exact absurd HA.out (by simp [shapesearchlaw09_SeriesLonger.j0])
    | succ kj8 =>
      have H := HA.out
      clear HA
      simp only [shapesearchlaw09_SeriesLonger.j0] at H
      by_cases c26 : x45_8 = true
      · subst c26
        have H1 : (some false) = some r := by rw [if_pos rfl] at H; exact H
        clear H
        have H := H1
        clear H1
        obtain rfl := Option.some.inj H
        go_wp2
        go_ret
        exact ⟨by first | rfl | (simp [errW_none, errW_some] <;> rfl) | (simp [*, errW_none, errW_some] <;> rfl), by repeat (first | (with_reducible first | exact HB.out | apply below_alloc | apply pw_below_drewN | apply below_drew1 | refine below_set ?_ GE257.out) | exact HB.out)⟩
      · replace c26 := Bool.eq_false_iff.mpr c26
        subst c26
        have H1 : ((shapesearchkeep_Mod.f (wrap64 (a2)) (wrap64 ((t253.length : Int) + 1))).bind fun t265 => ((series_Cut.f kj8 t251 t252 t253 t265 (wrap64 ((t253.length : Int) - t265))).bind fun bt266 => (if bt266.2.2.2 = 0 then (shapesearchlaw09_SeriesLonger.j1 kj8 a3 (wrap64 (1 + (Int.tmod (wrap64 (a1)) 8))) t265 (bt266.1 != (wrap64 (t251 + (wrap64 (t265 * t252))))) t251 t252 t253 bt266.1 bt266.2.1 bt266.2.2.1) else (shapesearchlaw09_SeriesLonger.j1 kj8 a3 (wrap64 (1 + (Int.tmod (wrap64 (a1)) 8))) t265 true t251 t252 t253 bt266.1 bt266.2.1 bt266.2.2.1)))) = some r := by rw [if_neg (show ¬ (false = true) by decide)] at H; exact H
        clear H
        have H := H1
        clear H1
        replace H := Option.bind_eq_some_iff.mp H
        obtain ⟨t265, A270, H⟩ := H
        replace H : ((series_Cut.f kj8 t251 t252 t253 t265 (wrap64 ((t253.length : Int) - t265))).bind fun bt266 => (if bt266.2.2.2 = 0 then (shapesearchlaw09_SeriesLonger.j1 kj8 a3 (wrap64 (1 + (Int.tmod (wrap64 (a1)) 8))) t265 (bt266.1 != (wrap64 (t251 + (wrap64 (t265 * t252))))) t251 t252 t253 bt266.1 bt266.2.1 bt266.2.2.1) else (shapesearchlaw09_SeriesLonger.j1 kj8 a3 (wrap64 (1 + (Int.tmod (wrap64 (a1)) 8))) t265 true t251 t252 t253 bt266.1 bt266.2.1 bt266.2.2.1))) = some r := H
        have A27 := Aside0.mk A270
        clear A270
        replace H := Option.bind_eq_some_iff.mp H
        obtain ⟨⟨t266, t267, t268, t271⟩, A280, H⟩ := H
        replace H : (if t271 = 0 then (shapesearchlaw09_SeriesLonger.j1 kj8 a3 (wrap64 (1 + (Int.tmod (wrap64 (a1)) 8))) t265 (t266 != (wrap64 (t251 + (wrap64 (t265 * t252))))) t251 t252 t253 t266 t267 t268) else (shapesearchlaw09_SeriesLonger.j1 kj8 a3 (wrap64 (1 + (Int.tmod (wrap64 (a1)) 8))) t265 true t251 t252 t253 t266 t267 t268)) = some r := H
        have A28 := Aside0.mk A280
        clear A280
        have HC29 := Aside0.mk H
        clear H
        have hcz30_0 : wc.cell? ⟨gb257, 0, none⟩ = some (.int .i64 t251) := (blk_cell BK257.out 0).trans rfl
        have hcz30_1 : wc.cell? ⟨gb257, 1, none⟩ = some (.int .i64 t252) := (blk_cell BK257.out 1).trans rfl
        have hcz30_2 : wc.cell? ⟨gb257, 2, none⟩ = some (.slice Ao15 t253.length co15) := (blk_cell BK257.out 2).trans rfl
        have hfz30_0 := blk_frozen BK257.out 0
        have hfz30_1 := blk_frozen BK257.out 1
        have hfz30_2 := blk_frozen BK257.out 2
        go_upto_region 8 with (first | ((with_reducible refine gate_callee (f := 17) rfl ?_); refine goesL_ (some 52) rfl rfl Try.func17 (by kernel_rfl) rfl #[.int .i64 (wrap64 (a2)), .int .i64 (wrap64 ((t253.length : Int) + 1))] rfl (by (try simp only [List.map_toArray, List.map_cons, List.map_nil]); first | done | rfl | (simp only [List.length_drop, List.length_take]; rfl)) ?_; (with_reducible refine (shapesearchkeep_Mod.calls (wrap64 (a2)) (wrap64 ((t253.length : Int) + 1)) t265 _ A27.out).mono ?_); rintro e w' ⟨rfl, ⟨nd, rfl⟩⟩; refine ⟨_, rfl, ?_⟩; (try (rw [drewN_self wc]; generalize hq_ : World.drewN wc _ = wc; have n0_ : Aside0 (Kd.R (Kd.int .i64) 3 wc w.heap.size (fun _ => True) (.slice Ao15 t253.length co15) t253) := ⟨by rw [← hq_]; exact (by (with_reducible repeat (first | apply Kd.R_alloc | apply Kd.R_drewN | apply Kd.R_drew)); exact HO_258002.out)⟩; have n1_ : Aside0 (wc.heap[gb257]? = some (.cells #[.int .i64 t251, .int .i64 t252, .slice Ao15 t253.length co15] 24 (0, 0))) := ⟨by rw [← hq_]; exact (by (with_reducible repeat (first | refine blk_drewN ?_ _ | refine blk_drew ?_ | refine blk_alloc ?_ _)); exact BK257.out)⟩; have n2_ : Aside0 (Below w.heap.size w wc) := ⟨by rw [← hq_]; exact (by repeat (first | (with_reducible first | exact HB.out | apply below_alloc | apply pw_below_drewN | apply below_drew1 | refine below_set ?_ GE257.out) | exact HB.out))⟩; clear HO_258002 BK257 HB hq_; have HO_258002 := n0_; have BK257 := n1_; have HB := n2_; clear n0_ n1_ n2_; (try (have hcygb257_0 : wc.cell? ⟨gb257, 0, none⟩ = some (.int .i64 t251) := (blk_cell BK257.out 0).trans rfl)); (try (have hfygb257_0 := blk_frozen BK257.out 0)); (try (have hcygb257_1 : wc.cell? ⟨gb257, 1, none⟩ = some (.int .i64 t252) := (blk_cell BK257.out 1).trans rfl)); (try (have hfygb257_1 := blk_frozen BK257.out 1)); (try (have hcygb257_2 : wc.cell? ⟨gb257, 2, none⟩ = some (.slice Ao15 t253.length co15) := (blk_cell BK257.out 2).trans rfl)); (try (have hfygb257_2 := blk_frozen BK257.out 2))))) | ((with_reducible refine gate_callee (f := 18) rfl ?_); refine goesL_ (some 61) rfl rfl Try.func18 (by kernel_rfl) rfl #[.agg #[.int .i64 t251, .int .i64 t252, .slice Ao15 t253.length co15], .int .i64 t265, .int .i64 (wrap64 ((t253.length : Int) - t265))] rfl (by (try simp only [List.map_toArray, List.map_cons, List.map_nil]); first | done | rfl | (simp only [List.length_drop, List.length_take]; rfl)) ?_; (with_reducible refine (series_Cut.calls kj8 t251 t252 _ _ t253 t265 (wrap64 ((t253.length : Int) - t265)) t266 t267 t268 t271 _ ?side1 ?side2 A28.out).mono ?_); (case side1 => repeat (first | exact (Kd.R_reads' HO_258002.out).2.2 | (with_reducible refine Kd.C_alloc ?_ _) | (with_reducible refine Kd.C_drewN ?_ _) | (with_reducible refine Kd.C_drew ?_))); (case side2 => exact (Kd.R_reads' HO_258002.out).2.1); rintro e w31 ⟨v269, rfl, ho0, hb⟩; refine ⟨_, rfl, ?_⟩; have n0_ := Aside0.mk (Kd.R_elder' (by (with_reducible repeat (first | apply Kd.R_alloc | apply Kd.R_drewN | apply Kd.R_drew)); exact HO_258002.out) (Kd.R_base ho0) hb); have n1_ := Aside0.mk (Kd.R_lower (Kd.R_new' ho0 (Kd.R_lt (by (with_reducible repeat (first | apply Kd.R_alloc | apply Kd.R_drewN | apply Kd.R_drew)); exact HO_258002.out))) (below_size (by repeat (first | (with_reducible first | exact HB.out | apply below_alloc | apply pw_below_drewN | apply below_drew1 | refine below_set ?_ GE257.out) | exact HB.out)))); have n2_ := Aside0.mk (blk_below (g := gb257) (o := .cells #[.int .i64 t251, .int .i64 t252, .slice Ao15 t253.length co15] 24 (0, 0)) (by (with_reducible repeat (first | refine blk_drewN ?_ _ | refine blk_drew ?_ | refine blk_alloc ?_ _)); exact BK257.out) hb); have n3_ := Aside0.mk (below_step (by repeat (first | (with_reducible first | exact HB.out | apply below_alloc | apply pw_below_drewN | apply below_drew1 | refine below_set ?_ GE257.out) | exact HB.out)) hb); clear HO_258002; clear BK257; clear HB; have HO_258002 := n0_; have HO270 := n1_; have BK257 := n2_; have HB := n3_; clear n0_ n1_ n2_ n3_; (try clear hb); (try clear hb2); (try clear hk); (try clear hi); (try clear ho0)) | ((with_reducible refine gate_dst (N := 14) rfl ?_); (try (refine gate_guard (by rfl) ?_; dsimp only)); refine box_event ?hg (N := 14) ?hd (cs := #[.int .i64 0, .int .i64 0, .slice none 0 0]) (t := 24) ?hr ?_; (case hd => rfl); (case hg => rfl); (case hr => first | (go_simp; done) | (go_simp; rfl)); intro gb272 hg w32 hbox hb; have n0_ := Aside0.mk (Kd.R_below (by (with_reducible repeat (first | apply Kd.R_alloc | apply Kd.R_drewN | apply Kd.R_drew)); exact HO_258002.out) hb); have n1_ := Aside0.mk (Kd.R_below (by (with_reducible repeat (first | apply Kd.R_alloc | apply Kd.R_drewN | apply Kd.R_drew)); exact HO270.out) hb); have n2_ := Aside0.mk (blk_below (g := gb257) (o := .cells #[.int .i64 t251, .int .i64 t252, .slice Ao15 t253.length co15] 24 (0, 0)) (by (with_reducible repeat (first | refine blk_drewN ?_ _ | refine blk_drew ?_ | refine blk_alloc ?_ _)); exact BK257.out) hb); have n3_ := Aside0.mk (below_step (by repeat (first | (with_reducible first | exact HB.out | apply below_alloc | apply pw_below_drewN | apply below_drew1 | refine below_set ?_ GE257.out) | exact HB.out)) hb); have n4_ := Aside0.mk (hbox); have n5_ := Aside0.mk ((by rw [hg]; exact (below_size (by repeat (first | (with_reducible first | exact HB.out | apply below_alloc | apply pw_below_drewN | apply below_drew1 | refine below_set ?_ GE257.out) | exact HB.out))) : w.heap.size ≤ gb272)); have n6_ := Aside0.mk ((by rw [hg]; exact (below_size (by repeat (first | (with_reducible first | exact HB.out | apply below_alloc | apply pw_below_drewN | apply below_drew1 | refine below_set ?_ GE257.out) | exact HB.out))) : w.heap.size ≤ gb272)); have n7_ := Aside0.mk ((by rw [hg]; exact Nat.ne_of_lt (blk_lt (g := gb257) (o := .cells #[.int .i64 t251, .int .i64 t252, .slice Ao15 t253.length co15] 24 (0, 0)) (by (with_reducible repeat (first | refine blk_drewN ?_ _ | refine blk_drew ?_ | refine blk_alloc ?_ _)); exact BK257.out)) : gb257 ≠ gb272)); have n8_ := Aside0.mk ((by rw [hg]; exact Nat.ne_of_gt (blk_lt (g := gb257) (o := .cells #[.int .i64 t251, .int .i64 t252, .slice Ao15 t253.length co15] 24 (0, 0)) (by (with_reducible repeat (first | refine blk_drewN ?_ _ | refine blk_drew ?_ | refine blk_alloc ?_ _)); exact BK257.out)) : gb272 ≠ gb257)); clear HO_258002; clear HO270; clear BK257; clear HB; have HO_258002 := n0_; have HO270 := n1_; have BK257 := n2_; have HB := n3_; have BK272 := n4_; have GW272 := n5_; have GE272 := n6_; have NB257_272 := n7_; have NB272_257 := n8_; clear n0_ n1_ n2_ n3_ n4_ n5_ n6_ n7_ n8_; clear hb hbox hg; have hnb33 := NB272_257.out; have hnc33 := NB257_272.out; have hcz34_0 : w32.cell? ⟨gb272, 0, none⟩ = some (.int .i64 0) := (blk_cell BK272.out 0).trans rfl; have hcz34_1 : w32.cell? ⟨gb272, 1, none⟩ = some (.int .i64 0) := (blk_cell BK272.out 1).trans rfl; have hcz34_2 : w32.cell? ⟨gb272, 2, none⟩ = some (.slice none 0 0) := (blk_cell BK272.out 2).trans rfl; have hfz34_0 := blk_frozen BK272.out 0; have hfz34_1 := blk_frozen BK272.out 1; have hfz34_2 := blk_frozen BK272.out 2; obtain ⟨Ao35, co35, eo35⟩ := Kd.R_slice HO270.out; subst eo35))
        (try simp only [Act.put, List.setIfInBounds_toArray, List.set_cons_zero, List.set_cons_succ])
        go_cut [77] (fun v77 wc => ∃ (kq : Nat) (x77_28 : Bool), v77 = .bool x77_28 ∧ Aside0 (shapesearchlaw09_SeriesLonger.j1 kq a3 (wrap64 (1 + (Int.tmod (wrap64 (a1)) 8))) t265 x77_28 t251 t252 t253 t266 t267 t268 = some r) ∧ Aside0 (kq ≤ kj8) ∧ Aside0 (Kd.R (Kd.int .i64) 3 wc w.heap.size (fun k_ => some k_ ≠ ((.slice Ao35 t268.length co35) : Value).ownBlock) (.slice Ao15 t253.length co15) t253) ∧ Aside0 (Kd.R (Kd.int .i64) 3 wc w.heap.size (fun k_ => some k_ ≠ ((.slice Ao15 t253.length co15) : Value).ownBlock) (.slice Ao35 t268.length co35) t268) ∧ Aside0 (wc.heap[gb257]? = some (.cells #[.int .i64 t251, .int .i64 t252, (.slice Ao15 t253.length co15)] 24 (0, 0))) ∧ Aside0 (wc.heap[gb272]? = some (.cells #[.int .i64 t266, .int .i64 t267, (.slice Ao35 t268.length co35)] 24 (0, 0))) ∧ Aside0 (Below w.heap.size w wc))
        case first =>
          have H := HC29.out
          clear HC29
          by_cases c36 : t271 = 0
          · rw [if_pos c36] at H
            have c36b0 : (t271 == 0) = true := beq_iff_eq.mpr c36
            have c36b1 : (t271 != 0) = false := bne_eq_false_iff_eq.mpr c36
            clear c36
            (first | rw [c36b0] | (simp only [i64_w, i32_w]; rw [c36b0]) | skip)
            have H' := Aside0.mk H
            clear H
            have hnb37 := NB272_257.out
            have hnc37 := NB257_272.out
            have hcz38_0 : w32.cell? ⟨gb272, 0, none⟩ = some (.int .i64 0) := (blk_cell BK272.out 0).trans rfl
            have hcz38_1 : w32.cell? ⟨gb272, 1, none⟩ = some (.int .i64 0) := (blk_cell BK272.out 1).trans rfl
            have hcz38_2 : w32.cell? ⟨gb272, 2, none⟩ = some (.slice none 0 0) := (blk_cell BK272.out 2).trans rfl
            have hfz38_0 := blk_frozen BK272.out 0
            have hfz38_1 := blk_frozen BK272.out 1
            have hfz38_2 := blk_frozen BK272.out 2
            have hcz39_0 : w32.cell? ⟨gb257, 0, none⟩ = some (.int .i64 t251) := (blk_cell BK257.out 0).trans rfl
            have hcz39_1 : w32.cell? ⟨gb257, 1, none⟩ = some (.int .i64 t252) := (blk_cell BK257.out 1).trans rfl
            have hcz39_2 : w32.cell? ⟨gb257, 2, none⟩ = some (.slice Ao15 t253.length co15) := (blk_cell BK257.out 2).trans rfl
            have hfz39_0 := blk_frozen BK257.out 0
            have hfz39_1 := blk_frozen BK257.out 1
            have hfz39_2 := blk_frozen BK257.out 2
            go_wp2
            go_meet
            case rel => exact ⟨_, ((t266 != (wrap64 (t251 + (wrap64 (t265 * t252)))))), (by first | rfl | (simp; done) | (simp [*]; done)), H', ⟨by have := HJ8.out; first | omega | exact Nat.le_refl _⟩, ⟨by (with_reducible repeat (first | apply Kd.R_alloc | apply Kd.R_drewN | apply Kd.R_drew)); exact Kd.R_mono (Kd.R_far (p := ⟨gb272, 2, none⟩) (Kd.R_far (p := ⟨gb272, 1, none⟩) (Kd.R_far (p := ⟨gb272, 0, none⟩) (Kd.R_types HO_258002.out BK272.out (by decide)) (fun _ hk => hk.2) (.int .i64 t266)) (fun _ hk => hk.2) (.int .i64 t267)) (fun _ hk => hk.2) (.slice Ao35 t268.length co35)) (fun _ hk => hk.1.2)⟩, ⟨by (with_reducible repeat (first | apply Kd.R_alloc | apply Kd.R_drewN | apply Kd.R_drew)); exact Kd.R_mono (Kd.R_far (p := ⟨gb272, 2, none⟩) (Kd.R_far (p := ⟨gb272, 1, none⟩) (Kd.R_far (p := ⟨gb272, 0, none⟩) (Kd.R_types HO270.out BK272.out (by decide)) (fun _ hk => hk.2) (.int .i64 t266)) (fun _ hk => hk.2) (.int .i64 t267)) (fun _ hk => hk.2) (.slice Ao35 t268.length co35)) (fun _ hk => hk.1.2)⟩, ⟨by (with_reducible repeat (first | refine blk_drewN ?_ _ | refine blk_drew ?_ | refine blk_alloc ?_ _)); refine blk_far ?_ NB257_272.out _; (with_reducible repeat (first | refine blk_drewN ?_ _ | refine blk_drew ?_ | refine blk_alloc ?_ _)); refine blk_far ?_ NB257_272.out _; (with_reducible repeat (first | refine blk_drewN ?_ _ | refine blk_drew ?_ | refine blk_alloc ?_ _)); refine blk_far ?_ NB257_272.out _; (with_reducible repeat (first | refine blk_drewN ?_ _ | refine blk_drew ?_ | refine blk_alloc ?_ _)); exact BK257.out⟩, ⟨by (with_reducible repeat (first | refine blk_drewN ?_ _ | refine blk_drew ?_ | refine blk_alloc ?_ _)); refine blk_put (cs := #[.int .i64 t266, .int .i64 t267, .slice none 0 0]) ?_ 2 _ rfl; (with_reducible repeat (first | refine blk_drewN ?_ _ | refine blk_drew ?_ | refine blk_alloc ?_ _)); refine blk_put (cs := #[.int .i64 t266, .int .i64 0, .slice none 0 0]) ?_ 1 _ rfl; (with_reducible repeat (first | refine blk_drewN ?_ _ | refine blk_drew ?_ | refine blk_alloc ?_ _)); refine blk_put (cs := #[.int .i64 0, .int .i64 0, .slice none 0 0]) ?_ 0 _ rfl; (with_reducible repeat (first | refine blk_drewN ?_ _ | refine blk_drew ?_ | refine blk_alloc ?_ _)); exact BK272.out⟩, ⟨by repeat (first | (with_reducible first | exact HB.out | apply below_alloc | apply pw_below_drewN | apply below_drew1 | refine below_set ?_ GE257.out | refine below_set ?_ GE272.out) | exact HB.out)⟩⟩
          · rw [if_neg c36] at H
            have c36b0 : (t271 == 0) = false := beq_eq_false_iff_ne.mpr c36
            have c36b1 : (t271 != 0) = true := bne_iff_ne.mpr c36
            (first | rw [c36b0] | (simp only [i64_w, i32_w]; rw [c36b0]) | skip)
            have H' := Aside0.mk H
            clear H
            go_wp2
            go_meet
            case rel => exact ⟨_, (true), (by first | rfl | (simp; done) | (simp [*]; done)), H', ⟨by have := HJ8.out; first | omega | exact Nat.le_refl _⟩, ⟨by (with_reducible repeat (first | apply Kd.R_alloc | apply Kd.R_drewN | apply Kd.R_drew)); exact Kd.R_mono (Kd.R_far (p := ⟨gb272, 2, none⟩) (Kd.R_far (p := ⟨gb272, 1, none⟩) (Kd.R_far (p := ⟨gb272, 0, none⟩) (Kd.R_types HO_258002.out BK272.out (by decide)) (fun _ hk => hk.2) (.int .i64 t266)) (fun _ hk => hk.2) (.int .i64 t267)) (fun _ hk => hk.2) (.slice Ao35 t268.length co35)) (fun _ hk => hk.1.2)⟩, ⟨by (with_reducible repeat (first | apply Kd.R_alloc | apply Kd.R_drewN | apply Kd.R_drew)); exact Kd.R_mono (Kd.R_far (p := ⟨gb272, 2, none⟩) (Kd.R_far (p := ⟨gb272, 1, none⟩) (Kd.R_far (p := ⟨gb272, 0, none⟩) (Kd.R_types HO270.out BK272.out (by decide)) (fun _ hk => hk.2) (.int .i64 t266)) (fun _ hk => hk.2) (.int .i64 t267)) (fun _ hk => hk.2) (.slice Ao35 t268.length co35)) (fun _ hk => hk.1.2)⟩, ⟨by (with_reducible repeat (first | refine blk_drewN ?_ _ | refine blk_drew ?_ | refine blk_alloc ?_ _)); refine blk_far ?_ NB257_272.out _; (with_reducible repeat (first | refine blk_drewN ?_ _ | refine blk_drew ?_ | refine blk_alloc ?_ _)); refine blk_far ?_ NB257_272.out _; (with_reducible repeat (first | refine blk_drewN ?_ _ | refine blk_drew ?_ | refine blk_alloc ?_ _)); refine blk_far ?_ NB257_272.out _; (with_reducible repeat (first | refine blk_drewN ?_ _ | refine blk_drew ?_ | refine blk_alloc ?_ _)); exact BK257.out⟩, ⟨by (with_reducible repeat (first | refine blk_drewN ?_ _ | refine blk_drew ?_ | refine blk_alloc ?_ _)); refine blk_put (cs := #[.int .i64 t266, .int .i64 t267, .slice none 0 0]) ?_ 2 _ rfl; (with_reducible repeat (first | refine blk_drewN ?_ _ | refine blk_drew ?_ | refine blk_alloc ?_ _)); refine blk_put (cs := #[.int .i64 t266, .int .i64 0, .slice none 0 0]) ?_ 1 _ rfl; (with_reducible repeat (first | refine blk_drewN ?_ _ | refine blk_drew ?_ | refine blk_alloc ?_ _)); refine blk_put (cs := #[.int .i64 0, .int .i64 0, .slice none 0 0]) ?_ 0 _ rfl; (with_reducible repeat (first | refine blk_drewN ?_ _ | refine blk_drew ?_ | refine blk_alloc ?_ _)); exact BK272.out⟩, ⟨by repeat (first | (with_reducible first | exact HB.out | apply below_alloc | apply pw_below_drewN | apply below_drew1 | refine below_set ?_ GE257.out | refine below_set ?_ GE272.out) | exact HB.out)⟩⟩
        case rest =>
          clear HC29
          try clear c1
          try clear c2
          try clear p2
          try clear c3
          try clear c4
          try clear p6
          try clear c9
          try clear c10
          try clear c11
          try clear c13
          try clear c16
          try clear c17
          try clear c18
          try clear c21
          try clear c26
          try clear c33
          try clear c36
          try clear c36b0
          try clear c36b1
          try clear c37
          try clear hcz14_0
          try clear hcz14_1
          try clear hcz14_2
          try clear hcz30_0
          try clear hcz30_1
          try clear hcz30_2
          try clear hcz34_0
          try clear hcz34_1
          try clear hcz34_2
          try clear hcz38_0
          try clear hcz38_1
          try clear hcz38_2
          try clear hcz39_0
          try clear hcz39_1
          try clear hcz39_2
          try clear hfz14_0
          try clear hfz14_1
          try clear hfz14_2
          try clear hfz30_0
          try clear hfz30_1
          try clear hfz30_2
          try clear hfz34_0
          try clear hfz34_1
          try clear hfz34_2
          try clear hfz38_0
          try clear hfz38_1
          try clear hfz38_2
          try clear hfz39_0
          try clear hfz39_1
          try clear hfz39_2
          try clear p2
          try clear p6
          obtain ⟨kq, x77_28, rfl, HA, HJ28, HO_258002, HO_273002, BK257, BK272, HB⟩ := hcut
          cases kq with
          | zero => exact absurd HA.out (by simp [shapesearchlaw09_SeriesLonger.j1])
          | succ kj28 =>
            have H := HA.out
            clear HA
            simp only [shapesearchlaw09_SeriesLonger.j1] at H
            by_cases c40 : x77_28 = true
            · subst c40
              have H1 : (some false) = some r := by rw [if_pos rfl] at H; exact H
              clear H
              have H := H1
              clear H1
              obtain rfl := Option.some.inj H
              go_wp2
              go_ret
              exact ⟨by first | rfl | (simp [errW_none, errW_some] <;> rfl) | (simp [*, errW_none, errW_some] <;> rfl), by repeat (first | (with_reducible first | exact HB.out | apply below_alloc | apply pw_below_drewN | apply below_drew1 | refine below_set ?_ GE257.out | refine below_set ?_ GE272.out) | exact HB.out)⟩
            · replace c40 := Bool.eq_false_iff.mpr c40
              subst c40
              have H1 : ((series_Window.f kj28 t266 t267 t268 (Int.tmod (wrap64 (a3)) 40) (wrap64 (1 + (Int.tmod (wrap64 (a1)) 8)))).bind fun bt273 => ((series_Window.f kj28 t251 t252 t253 (wrap64 (t265 + (Int.tmod (wrap64 (a3)) 40))) (wrap64 (1 + (Int.tmod (wrap64 (a1)) 8)))).bind fun bt277 => (if bt273.2 = bt277.2 then ((shapesearchkeep_Ints.f kj28 bt273.1 bt277.1).bind fun t281 => (if t281 = true then ((shapesearchlaw09_awake.f kj28).bind fun t282 => (some t282)) else (some false))) else (some false)))) = some r := by rw [if_neg (show ¬ (false = true) by decide)] at H; exact H
              clear H
              have H := H1
              clear H1
              replace H := Option.bind_eq_some_iff.mp H
              obtain ⟨⟨t273, t276⟩, A410, H⟩ := H
              replace H : ((series_Window.f kj28 t251 t252 t253 (wrap64 (t265 + (Int.tmod (wrap64 (a3)) 40))) (wrap64 (1 + (Int.tmod (wrap64 (a1)) 8)))).bind fun bt277 => (if t276 = bt277.2 then ((shapesearchkeep_Ints.f kj28 t273 bt277.1).bind fun t281 => (if t281 = true then ((shapesearchlaw09_awake.f kj28).bind fun t282 => (some t282)) else (some false))) else (some false))) = some r := H
              have A41 := Aside0.mk A410
              clear A410
              replace H := Option.bind_eq_some_iff.mp H
              obtain ⟨⟨t277, t280⟩, A420, H⟩ := H
              replace H : (if t276 = t280 then ((shapesearchkeep_Ints.f kj28 t273 t277).bind fun t281 => (if t281 = true then ((shapesearchlaw09_awake.f kj28).bind fun t282 => (some t282)) else (some false))) else (some false)) = some r := H
              have A42 := Aside0.mk A420
              clear A420
              by_cases c43 : t276 = t280
              · rw [if_pos c43] at H
                have c43b0 : (t276 == t280) = true := beq_iff_eq.mpr c43
                have c43b1 : (t276 != t280) = false := bne_eq_false_iff_eq.mpr c43
                clear c43
                replace H := Option.bind_eq_some_iff.mp H
                obtain ⟨t281, A440, H⟩ := H
                replace H : (if t281 = true then ((shapesearchlaw09_awake.f kj28).bind fun t282 => (some t282)) else (some false)) = some r := H
                have A44 := Aside0.mk A440
                clear A440
                by_cases c45 : t281 = true
                · subst c45
                  have H1 : ((shapesearchlaw09_awake.f kj28).bind fun t282 => (some t282)) = some r := by rw [if_pos rfl] at H; exact H
                  clear H
                  have H := H1
                  clear H1
                  replace H := Option.bind_eq_some_iff.mp H
                  obtain ⟨t282, A460, H⟩ := H
                  replace H : (some t282) = some r := H
                  have A46 := Aside0.mk A460
                  clear A460
                  obtain rfl := Option.some.inj H
                  have hnb47 := NB272_257.out
                  have hnc47 := NB257_272.out
                  have hcz48_0 : wc.cell? ⟨gb272, 0, none⟩ = some (.int .i64 t266) := (blk_cell BK272.out 0).trans rfl
                  have hcz48_1 : wc.cell? ⟨gb272, 1, none⟩ = some (.int .i64 t267) := (blk_cell BK272.out 1).trans rfl
                  have hcz48_2 : wc.cell? ⟨gb272, 2, none⟩ = some (.slice Ao35 t268.length co35) := (blk_cell BK272.out 2).trans rfl
                  have hfz48_0 := blk_frozen BK272.out 0
                  have hfz48_1 := blk_frozen BK272.out 1
                  have hfz48_2 := blk_frozen BK272.out 2
                  go_wp2_with (first | ((with_reducible refine gate_callee (f := 12) rfl ?_); refine goesL_ (some 85) rfl rfl Try.func12 (by kernel_rfl) rfl #[.agg #[.int .i64 t266, .int .i64 t267, .slice Ao35 t268.length co35], .int .i64 (Int.tmod (wrap64 (a3)) 40), .int .i64 (wrap64 (1 + (Int.tmod (wrap64 (a1)) 8)))] rfl (by (try simp only [List.map_toArray, List.map_cons, List.map_nil]); first | done | rfl | (simp only [List.length_drop, List.length_take]; rfl)) ?_; (with_reducible refine (series_Window.calls kj28 t266 t267 _ _ t268 (Int.tmod (wrap64 (a3)) 40) (wrap64 (1 + (Int.tmod (wrap64 (a1)) 8))) t273 t276 _ ?side1 ?side2 A41.out).mono ?_); (case side1 => repeat (first | exact (Kd.R_reads' HO_273002.out).2.2 | (with_reducible refine Kd.C_alloc ?_ _) | (with_reducible refine Kd.C_drewN ?_ _) | (with_reducible refine Kd.C_drew ?_))); (case side2 => exact (Kd.R_reads' HO_273002.out).2.1); rintro e w49 ⟨v274, rfl, ho0, hb⟩; refine ⟨_, rfl, ?_⟩; have n0_ := Aside0.mk (Kd.R_elder' (by (with_reducible repeat (first | apply Kd.R_alloc | apply Kd.R_drewN | apply Kd.R_drew)); exact HO_258002.out) (Kd.R_base ho0) hb); have n1_ := Aside0.mk (Kd.R_elder' (by (with_reducible repeat (first | apply Kd.R_alloc | apply Kd.R_drewN | apply Kd.R_drew)); exact HO_273002.out) (Kd.R_base ho0) hb); have n2_ := Aside0.mk (Kd.R_lower (Kd.R_new' (Kd.R_new' ho0 (Kd.R_lt (by (with_reducible repeat (first | apply Kd.R_alloc | apply Kd.R_drewN | apply Kd.R_drew)); exact HO_258002.out))) (Kd.R_lt (by (with_reducible repeat (first | apply Kd.R_alloc | apply Kd.R_drewN | apply Kd.R_drew)); exact HO_273002.out))) (below_size (by repeat (first | (with_reducible first | exact HB.out | apply below_alloc | apply pw_below_drewN | apply below_drew1 | refine below_set ?_ GE257.out | refine below_set ?_ GE272.out) | exact HB.out)))); have n3_ := Aside0.mk (blk_below (g := gb257) (o := .cells #[.int .i64 t251, .int .i64 t252, .slice Ao15 t253.length co15] 24 (0, 0)) (by (with_reducible repeat (first | refine blk_drewN ?_ _ | refine blk_drew ?_ | refine blk_alloc ?_ _)); exact BK257.out) hb); have n4_ := Aside0.mk (blk_below (g := gb272) (o := .cells #[.int .i64 t266, .int .i64 t267, .slice Ao35 t268.length co35] 24 (0, 0)) (by (with_reducible repeat (first | refine blk_drewN ?_ _ | refine blk_drew ?_ | refine blk_alloc ?_ _)); exact BK272.out) hb); have n5_ := Aside0.mk (below_step (by repeat (first | (with_reducible first | exact HB.out | apply below_alloc | apply pw_below_drewN | apply below_drew1 | refine below_set ?_ GE257.out | refine below_set ?_ GE272.out) | exact HB.out)) hb); clear HO_258002; clear HO_273002; clear BK257; clear BK272; clear HB; have HO_258002 := n0_; have HO_273002 := n1_; have HO275 := n2_; have BK257 := n3_; have BK272 := n4_; have HB := n5_; clear n0_ n1_ n2_ n3_ n4_ n5_; (try clear hb); (try clear hb2); (try clear hk); (try clear hi); (try clear ho0); have hcz50_0 : w49.cell? ⟨gb257, 0, none⟩ = some (.int .i64 t251) := (blk_cell BK257.out 0).trans rfl; have hcz50_1 : w49.cell? ⟨gb257, 1, none⟩ = some (.int .i64 t252) := (blk_cell BK257.out 1).trans rfl; have hcz50_2 : w49.cell? ⟨gb257, 2, none⟩ = some (.slice Ao15 t253.length co15) := (blk_cell BK257.out 2).trans rfl; have hfz50_0 := blk_frozen BK257.out 0; have hfz50_1 := blk_frozen BK257.out 1; have hfz50_2 := blk_frozen BK257.out 2) | ((with_reducible refine gate_callee (f := 12) rfl ?_); refine goesL_ (some 94) rfl rfl Try.func12 (by kernel_rfl) rfl #[.agg #[.int .i64 t251, .int .i64 t252, .slice Ao15 t253.length co15], .int .i64 (wrap64 (t265 + (Int.tmod (wrap64 (a3)) 40))), .int .i64 (wrap64 (1 + (Int.tmod (wrap64 (a1)) 8)))] rfl (by (try simp only [List.map_toArray, List.map_cons, List.map_nil]); first | done | rfl | (simp only [List.length_drop, List.length_take]; rfl)) ?_; (with_reducible refine (series_Window.calls kj28 t251 t252 _ _ t253 (wrap64 (t265 + (Int.tmod (wrap64 (a3)) 40))) (wrap64 (1 + (Int.tmod (wrap64 (a1)) 8))) t277 t280 _ ?side1 ?side2 A42.out).mono ?_); (case side1 => repeat (first | exact (Kd.R_reads' HO_258002.out).2.2 | (with_reducible refine Kd.C_alloc ?_ _) | (with_reducible refine Kd.C_drewN ?_ _) | (with_reducible refine Kd.C_drew ?_))); (case side2 => exact (Kd.R_reads' HO_258002.out).2.1); rintro e w51 ⟨v278, rfl, ho0, hb⟩; refine ⟨_, rfl, ?_⟩; have n0_ := Aside0.mk (Kd.R_elder' (by (with_reducible repeat (first | apply Kd.R_alloc | apply Kd.R_drewN | apply Kd.R_drew)); exact HO_258002.out) (Kd.R_base ho0) hb); have n1_ := Aside0.mk (Kd.R_elder' (by (with_reducible repeat (first | apply Kd.R_alloc | apply Kd.R_drewN | apply Kd.R_drew)); exact HO_273002.out) (Kd.R_base ho0) hb); have n2_ := Aside0.mk (Kd.R_elder' (by (with_reducible repeat (first | apply Kd.R_alloc | apply Kd.R_drewN | apply Kd.R_drew)); exact HO275.out) (Kd.R_base ho0) hb); have n3_ := Aside0.mk (Kd.R_lower (Kd.R_new' (Kd.R_new' (Kd.R_new' ho0 (Kd.R_lt (by (with_reducible repeat (first | apply Kd.R_alloc | apply Kd.R_drewN | apply Kd.R_drew)); exact HO_258002.out))) (Kd.R_lt (by (with_reducible repeat (first | apply Kd.R_alloc | apply Kd.R_drewN | apply Kd.R_drew)); exact HO_273002.out))) (Kd.R_lt (by (with_reducible repeat (first | apply Kd.R_alloc | apply Kd.R_drewN | apply Kd.R_drew)); exact HO275.out))) (below_size (by repeat (first | (with_reducible first | exact HB.out | apply below_alloc | apply pw_below_drewN | apply below_drew1 | refine below_set ?_ GE257.out | refine below_set ?_ GE272.out) | exact HB.out)))); have n4_ := Aside0.mk (blk_below (g := gb257) (o := .cells #[.int .i64 t251, .int .i64 t252, .slice Ao15 t253.length co15] 24 (0, 0)) (by (with_reducible repeat (first | refine blk_drewN ?_ _ | refine blk_drew ?_ | refine blk_alloc ?_ _)); exact BK257.out) hb); have n5_ := Aside0.mk (blk_below (g := gb272) (o := .cells #[.int .i64 t266, .int .i64 t267, .slice Ao35 t268.length co35] 24 (0, 0)) (by (with_reducible repeat (first | refine blk_drewN ?_ _ | refine blk_drew ?_ | refine blk_alloc ?_ _)); exact BK272.out) hb); have n6_ := Aside0.mk (below_step (by repeat (first | (with_reducible first | exact HB.out | apply below_alloc | apply pw_below_drewN | apply below_drew1 | refine below_set ?_ GE257.out | refine below_set ?_ GE272.out) | exact HB.out)) hb); clear HO_258002; clear HO_273002; clear HO275; clear BK257; clear BK272; clear HB; have HO_258002 := n0_; have HO_273002 := n1_; have HO275 := n2_; have HO279 := n3_; have BK257 := n4_; have BK272 := n5_; have HB := n6_; clear n0_ n1_ n2_ n3_ n4_ n5_ n6_; (try clear hb); (try clear hb2); (try clear hk); (try clear hi); (try clear ho0); obtain ⟨Ao52, co52, eo52⟩ := Kd.R_slice HO275.out; subst eo52; obtain ⟨Ao53, co53, eo53⟩ := Kd.R_slice HO279.out; subst eo53) | (go_at_call 14; (with_reducible refine (shapesearchkeep_Ints.calls kj28 _ _ t273 _ _ t277 true _ ?side1 ?side2 ?side3 ?side4 A44.out).mono ?_); (case side1 => repeat (first | exact (Kd.R_reads' HO275.out).2.2 | (with_reducible refine Kd.C_alloc ?_ _) | (with_reducible refine Kd.C_drewN ?_ _) | (with_reducible refine Kd.C_drew ?_))); (case side2 => exact (Kd.R_reads' HO275.out).2.1); (case side3 => repeat (first | exact (Kd.R_reads' HO279.out).2.2 | (with_reducible refine Kd.C_alloc ?_ _) | (with_reducible refine Kd.C_drewN ?_ _) | (with_reducible refine Kd.C_drew ?_))); (case side4 => exact (Kd.R_reads' HO279.out).2.1); rintro e w' ⟨rfl, ⟨nd, rfl⟩⟩) | (go_at_call 15; (with_reducible refine (shapesearchlaw09_awake.calls kj28  t282 _ A46.out).mono ?_); rintro e w54 ⟨rfl, hb⟩; have n0_ := Aside0.mk (Kd.R_below (by (with_reducible repeat (first | apply Kd.R_alloc | apply Kd.R_drewN | apply Kd.R_drew)); exact HO_258002.out) hb); have n1_ := Aside0.mk (Kd.R_below (by (with_reducible repeat (first | apply Kd.R_alloc | apply Kd.R_drewN | apply Kd.R_drew)); exact HO_273002.out) hb); have n2_ := Aside0.mk (Kd.R_below (by (with_reducible repeat (first | apply Kd.R_alloc | apply Kd.R_drewN | apply Kd.R_drew)); exact HO275.out) hb); have n3_ := Aside0.mk (Kd.R_below (by (with_reducible repeat (first | apply Kd.R_alloc | apply Kd.R_drewN | apply Kd.R_drew)); exact HO279.out) hb); have n4_ := Aside0.mk (blk_below (g := gb257) (o := .cells #[.int .i64 t251, .int .i64 t252, .slice Ao15 t253.length co15] 24 (0, 0)) (by (with_reducible repeat (first | refine blk_drewN ?_ _ | refine blk_drew ?_ | refine blk_alloc ?_ _)); exact BK257.out) hb); have n5_ := Aside0.mk (blk_below (g := gb272) (o := .cells #[.int .i64 t266, .int .i64 t267, .slice Ao35 t268.length co35] 24 (0, 0)) (by (with_reducible repeat (first | refine blk_drewN ?_ _ | refine blk_drew ?_ | refine blk_alloc ?_ _)); exact BK272.out) hb); have n6_ := Aside0.mk (below_step (by repeat (first | (with_reducible first | exact HB.out | apply below_alloc | apply pw_below_drewN | apply below_drew1 | refine below_set ?_ GE257.out | refine below_set ?_ GE272.out) | exact HB.out)) hb); clear HO_258002; clear HO_273002; clear HO275; clear HO279; clear BK257; clear BK272; clear HB; have HO_258002 := n0_; have HO_273002 := n1_; have HO275 := n2_; have HO279 := n3_; have BK257 := n4_; have BK272 := n5_; have HB := n6_; clear n0_ n1_ n2_ n3_ n4_ n5_ n6_; (try clear hb); (try clear hb2); (try clear hk); (try clear hi)))
                  go_ret
                  exact ⟨by first | rfl | (simp [errW_none, errW_some] <;> rfl) | (simp [*, errW_none, errW_some] <;> rfl), by repeat (first | (with_reducible first | exact HB.out | apply below_alloc | apply pw_below_drewN | apply below_drew1 | refine below_set ?_ GE257.out | refine below_set ?_ GE272.out) | exact HB.out)⟩
                · replace c45 := Bool.eq_false_iff.mpr c45
                  subst c45
                  have H1 : (some false) = some r := by rw [if_neg (show ¬ (false = true) by decide)] at H; exact H
                  clear H
                  have H := H1
                  clear H1
                  obtain rfl := Option.some.inj H
                  have hnb55 := NB272_257.out
                  have hnc55 := NB257_272.out
                  have hcz56_0 : wc.cell? ⟨gb272, 0, none⟩ = some (.int .i64 t266) := (blk_cell BK272.out 0).trans rfl
                  have hcz56_1 : wc.cell? ⟨gb272, 1, none⟩ = some (.int .i64 t267) := (blk_cell BK272.out 1).trans rfl
                  have hcz56_2 : wc.cell? ⟨gb272, 2, none⟩ = some (.slice Ao35 t268.length co35) := (blk_cell BK272.out 2).trans rfl
                  have hfz56_0 := blk_frozen BK272.out 0
                  have hfz56_1 := blk_frozen BK272.out 1
                  have hfz56_2 := blk_frozen BK272.out 2
                  go_wp2_with (first | ((with_reducible refine gate_callee (f := 12) rfl ?_); refine goesL_ (some 85) rfl rfl Try.func12 (by kernel_rfl) rfl #[.agg #[.int .i64 t266, .int .i64 t267, .slice Ao35 t268.length co35], .int .i64 (Int.tmod (wrap64 (a3)) 40), .int .i64 (wrap64 (1 + (Int.tmod (wrap64 (a1)) 8)))] rfl (by (try simp only [List.map_toArray, List.map_cons, List.map_nil]); first | done | rfl | (simp only [List.length_drop, List.length_take]; rfl)) ?_; (with_reducible refine (series_Window.calls kj28 t266 t267 _ _ t268 (Int.tmod (wrap64 (a3)) 40) (wrap64 (1 + (Int.tmod (wrap64 (a1)) 8))) t273 t276 _ ?side1 ?side2 A41.out).mono ?_); (case side1 => repeat (first | exact (Kd.R_reads' HO_273002.out).2.2 | (with_reducible refine Kd.C_alloc ?_ _) | (with_reducible refine Kd.C_drewN ?_ _) | (with_reducible refine Kd.C_drew ?_))); (case side2 => exact (Kd.R_reads' HO_273002.out).2.1); rintro e w57 ⟨v274, rfl, ho0, hb⟩; refine ⟨_, rfl, ?_⟩; have n0_ := Aside0.mk (Kd.R_elder' (by (with_reducible repeat (first | apply Kd.R_alloc | apply Kd.R_drewN | apply Kd.R_drew)); exact HO_258002.out) (Kd.R_base ho0) hb); have n1_ := Aside0.mk (Kd.R_elder' (by (with_reducible repeat (first | apply Kd.R_alloc | apply Kd.R_drewN | apply Kd.R_drew)); exact HO_273002.out) (Kd.R_base ho0) hb); have n2_ := Aside0.mk (Kd.R_lower (Kd.R_new' (Kd.R_new' ho0 (Kd.R_lt (by (with_reducible repeat (first | apply Kd.R_alloc | apply Kd.R_drewN | apply Kd.R_drew)); exact HO_258002.out))) (Kd.R_lt (by (with_reducible repeat (first | apply Kd.R_alloc | apply Kd.R_drewN | apply Kd.R_drew)); exact HO_273002.out))) (below_size (by repeat (first | (with_reducible first | exact HB.out | apply below_alloc | apply pw_below_drewN | apply below_drew1 | refine below_set ?_ GE257.out | refine below_set ?_ GE272.out) | exact HB.out)))); have n3_ := Aside0.mk (blk_below (g := gb257) (o := .cells #[.int .i64 t251, .int .i64 t252, .slice Ao15 t253.length co15] 24 (0, 0)) (by (with_reducible repeat (first | refine blk_drewN ?_ _ | refine blk_drew ?_ | refine blk_alloc ?_ _)); exact BK257.out) hb); have n4_ := Aside0.mk (blk_below (g := gb272) (o := .cells #[.int .i64 t266, .int .i64 t267, .slice Ao35 t268.length co35] 24 (0, 0)) (by (with_reducible repeat (first | refine blk_drewN ?_ _ | refine blk_drew ?_ | refine blk_alloc ?_ _)); exact BK272.out) hb); have n5_ := Aside0.mk (below_step (by repeat (first | (with_reducible first | exact HB.out | apply below_alloc | apply pw_below_drewN | apply below_drew1 | refine below_set ?_ GE257.out | refine below_set ?_ GE272.out) | exact HB.out)) hb); clear HO_258002; clear HO_273002; clear BK257; clear BK272; clear HB; have HO_258002 := n0_; have HO_273002 := n1_; have HO275 := n2_; have BK257 := n3_; have BK272 := n4_; have HB := n5_; clear n0_ n1_ n2_ n3_ n4_ n5_; (try clear hb); (try clear hb2); (try clear hk); (try clear hi); (try clear ho0); have hcz58_0 : w57.cell? ⟨gb257, 0, none⟩ = some (.int .i64 t251) := (blk_cell BK257.out 0).trans rfl; have hcz58_1 : w57.cell? ⟨gb257, 1, none⟩ = some (.int .i64 t252) := (blk_cell BK257.out 1).trans rfl; have hcz58_2 : w57.cell? ⟨gb257, 2, none⟩ = some (.slice Ao15 t253.length co15) := (blk_cell BK257.out 2).trans rfl; have hfz58_0 := blk_frozen BK257.out 0; have hfz58_1 := blk_frozen BK257.out 1; have hfz58_2 := blk_frozen BK257.out 2) | ((with_reducible refine gate_callee (f := 12) rfl ?_); refine goesL_ (some 94) rfl rfl Try.func12 (by kernel_rfl) rfl #[.agg #[.int .i64 t251, .int .i64 t252, .slice Ao15 t253.length co15], .int .i64 (wrap64 (t265 + (Int.tmod (wrap64 (a3)) 40))), .int .i64 (wrap64 (1 + (Int.tmod (wrap64 (a1)) 8)))] rfl (by (try simp only [List.map_toArray, List.map_cons, List.map_nil]); first | done | rfl | (simp only [List.length_drop, List.length_take]; rfl)) ?_; (with_reducible refine (series_Window.calls kj28 t251 t252 _ _ t253 (wrap64 (t265 + (Int.tmod (wrap64 (a3)) 40))) (wrap64 (1 + (Int.tmod (wrap64 (a1)) 8))) t277 t280 _ ?side1 ?side2 A42.out).mono ?_); (case side1 => repeat (first | exact (Kd.R_reads' HO_258002.out).2.2 | (with_reducible refine Kd.C_alloc ?_ _) | (with_reducible refine Kd.C_drewN ?_ _) | (with_reducible refine Kd.C_drew ?_))); (case side2 => exact (Kd.R_reads' HO_258002.out).2.1); rintro e w59 ⟨v278, rfl, ho0, hb⟩; refine ⟨_, rfl, ?_⟩; have n0_ := Aside0.mk (Kd.R_elder' (by (with_reducible repeat (first | apply Kd.R_alloc | apply Kd.R_drewN | apply Kd.R_drew)); exact HO_258002.out) (Kd.R_base ho0) hb); have n1_ := Aside0.mk (Kd.R_elder' (by (with_reducible repeat (first | apply Kd.R_alloc | apply Kd.R_drewN | apply Kd.R_drew)); exact HO_273002.out) (Kd.R_base ho0) hb); have n2_ := Aside0.mk (Kd.R_elder' (by (with_reducible repeat (first | apply Kd.R_alloc | apply Kd.R_drewN | apply Kd.R_drew)); exact HO275.out) (Kd.R_base ho0) hb); have n3_ := Aside0.mk (Kd.R_lower (Kd.R_new' (Kd.R_new' (Kd.R_new' ho0 (Kd.R_lt (by (with_reducible repeat (first | apply Kd.R_alloc | apply Kd.R_drewN | apply Kd.R_drew)); exact HO_258002.out))) (Kd.R_lt (by (with_reducible repeat (first | apply Kd.R_alloc | apply Kd.R_drewN | apply Kd.R_drew)); exact HO_273002.out))) (Kd.R_lt (by (with_reducible repeat (first | apply Kd.R_alloc | apply Kd.R_drewN | apply Kd.R_drew)); exact HO275.out))) (below_size (by repeat (first | (with_reducible first | exact HB.out | apply below_alloc | apply pw_below_drewN | apply below_drew1 | refine below_set ?_ GE257.out | refine below_set ?_ GE272.out) | exact HB.out)))); have n4_ := Aside0.mk (blk_below (g := gb257) (o := .cells #[.int .i64 t251, .int .i64 t252, .slice Ao15 t253.length co15] 24 (0, 0)) (by (with_reducible repeat (first | refine blk_drewN ?_ _ | refine blk_drew ?_ | refine blk_alloc ?_ _)); exact BK257.out) hb); have n5_ := Aside0.mk (blk_below (g := gb272) (o := .cells #[.int .i64 t266, .int .i64 t267, .slice Ao35 t268.length co35] 24 (0, 0)) (by (with_reducible repeat (first | refine blk_drewN ?_ _ | refine blk_drew ?_ | refine blk_alloc ?_ _)); exact BK272.out) hb); have n6_ := Aside0.mk (below_step (by repeat (first | (with_reducible first | exact HB.out | apply below_alloc | apply pw_below_drewN | apply below_drew1 | refine below_set ?_ GE257.out | refine below_set ?_ GE272.out) | exact HB.out)) hb); clear HO_258002; clear HO_273002; clear HO275; clear BK257; clear BK272; clear HB; have HO_258002 := n0_; have HO_273002 := n1_; have HO275 := n2_; have HO279 := n3_; have BK257 := n4_; have BK272 := n5_; have HB := n6_; clear n0_ n1_ n2_ n3_ n4_ n5_ n6_; (try clear hb); (try clear hb2); (try clear hk); (try clear hi); (try clear ho0); obtain ⟨Ao60, co60, eo60⟩ := Kd.R_slice HO275.out; subst eo60; obtain ⟨Ao61, co61, eo61⟩ := Kd.R_slice HO279.out; subst eo61) | (go_at_call 14; (with_reducible refine (shapesearchkeep_Ints.calls kj28 _ _ t273 _ _ t277 false _ ?side1 ?side2 ?side3 ?side4 A44.out).mono ?_); (case side1 => repeat (first | exact (Kd.R_reads' HO275.out).2.2 | (with_reducible refine Kd.C_alloc ?_ _) | (with_reducible refine Kd.C_drewN ?_ _) | (with_reducible refine Kd.C_drew ?_))); (case side2 => exact (Kd.R_reads' HO275.out).2.1); (case side3 => repeat (first | exact (Kd.R_reads' HO279.out).2.2 | (with_reducible refine Kd.C_alloc ?_ _) | (with_reducible refine Kd.C_drewN ?_ _) | (with_reducible refine Kd.C_drew ?_))); (case side4 => exact (Kd.R_reads' HO279.out).2.1); rintro e w' ⟨rfl, ⟨nd, rfl⟩⟩))
                  go_ret
                  exact ⟨by first | rfl | (simp [errW_none, errW_some] <;> rfl) | (simp [*, errW_none, errW_some] <;> rfl), by repeat (first | (with_reducible first | exact HB.out | apply below_alloc | apply pw_below_drewN | apply below_drew1 | refine below_set ?_ GE257.out | refine below_set ?_ GE272.out) | exact HB.out)⟩
              · rw [if_neg c43] at H
                have c43b0 : (t276 == t280) = false := beq_eq_false_iff_ne.mpr c43
                have c43b1 : (t276 != t280) = true := bne_iff_ne.mpr c43
                obtain rfl := Option.some.inj H
                have hnb62 := NB272_257.out
                have hnc62 := NB257_272.out
                have hcz63_0 : wc.cell? ⟨gb272, 0, none⟩ = some (.int .i64 t266) := (blk_cell BK272.out 0).trans rfl
                have hcz63_1 : wc.cell? ⟨gb272, 1, none⟩ = some (.int .i64 t267) := (blk_cell BK272.out 1).trans rfl
                have hcz63_2 : wc.cell? ⟨gb272, 2, none⟩ = some (.slice Ao35 t268.length co35) := (blk_cell BK272.out 2).trans rfl
                have hfz63_0 := blk_frozen BK272.out 0
                have hfz63_1 := blk_frozen BK272.out 1
                have hfz63_2 := blk_frozen BK272.out 2
                go_wp2_with (first | ((with_reducible refine gate_callee (f := 12) rfl ?_); refine goesL_ (some 85) rfl rfl Try.func12 (by kernel_rfl) rfl #[.agg #[.int .i64 t266, .int .i64 t267, .slice Ao35 t268.length co35], .int .i64 (Int.tmod (wrap64 (a3)) 40), .int .i64 (wrap64 (1 + (Int.tmod (wrap64 (a1)) 8)))] rfl (by (try simp only [List.map_toArray, List.map_cons, List.map_nil]); first | done | rfl | (simp only [List.length_drop, List.length_take]; rfl)) ?_; (with_reducible refine (series_Window.calls kj28 t266 t267 _ _ t268 (Int.tmod (wrap64 (a3)) 40) (wrap64 (1 + (Int.tmod (wrap64 (a1)) 8))) t273 t276 _ ?side1 ?side2 A41.out).mono ?_); (case side1 => repeat (first | exact (Kd.R_reads' HO_273002.out).2.2 | (with_reducible refine Kd.C_alloc ?_ _) | (with_reducible refine Kd.C_drewN ?_ _) | (with_reducible refine Kd.C_drew ?_))); (case side2 => exact (Kd.R_reads' HO_273002.out).2.1); rintro e w64 ⟨v274, rfl, ho0, hb⟩; refine ⟨_, rfl, ?_⟩; have n0_ := Aside0.mk (Kd.R_elder' (by (with_reducible repeat (first | apply Kd.R_alloc | apply Kd.R_drewN | apply Kd.R_drew)); exact HO_258002.out) (Kd.R_base ho0) hb); have n1_ := Aside0.mk (Kd.R_elder' (by (with_reducible repeat (first | apply Kd.R_alloc | apply Kd.R_drewN | apply Kd.R_drew)); exact HO_273002.out) (Kd.R_base ho0) hb); have n2_ := Aside0.mk (Kd.R_lower (Kd.R_new' (Kd.R_new' ho0 (Kd.R_lt (by (with_reducible repeat (first | apply Kd.R_alloc | apply Kd.R_drewN | apply Kd.R_drew)); exact HO_258002.out))) (Kd.R_lt (by (with_reducible repeat (first | apply Kd.R_alloc | apply Kd.R_drewN | apply Kd.R_drew)); exact HO_273002.out))) (below_size (by repeat (first | (with_reducible first | exact HB.out | apply below_alloc | apply pw_below_drewN | apply below_drew1 | refine below_set ?_ GE257.out | refine below_set ?_ GE272.out) | exact HB.out)))); have n3_ := Aside0.mk (blk_below (g := gb257) (o := .cells #[.int .i64 t251, .int .i64 t252, .slice Ao15 t253.length co15] 24 (0, 0)) (by (with_reducible repeat (first | refine blk_drewN ?_ _ | refine blk_drew ?_ | refine blk_alloc ?_ _)); exact BK257.out) hb); have n4_ := Aside0.mk (blk_below (g := gb272) (o := .cells #[.int .i64 t266, .int .i64 t267, .slice Ao35 t268.length co35] 24 (0, 0)) (by (with_reducible repeat (first | refine blk_drewN ?_ _ | refine blk_drew ?_ | refine blk_alloc ?_ _)); exact BK272.out) hb); have n5_ := Aside0.mk (below_step (by repeat (first | (with_reducible first | exact HB.out | apply below_alloc | apply pw_below_drewN | apply below_drew1 | refine below_set ?_ GE257.out | refine below_set ?_ GE272.out) | exact HB.out)) hb); clear HO_258002; clear HO_273002; clear BK257; clear BK272; clear HB; have HO_258002 := n0_; have HO_273002 := n1_; have HO275 := n2_; have BK257 := n3_; have BK272 := n4_; have HB := n5_; clear n0_ n1_ n2_ n3_ n4_ n5_; (try clear hb); (try clear hb2); (try clear hk); (try clear hi); (try clear ho0); have hcz65_0 : w64.cell? ⟨gb257, 0, none⟩ = some (.int .i64 t251) := (blk_cell BK257.out 0).trans rfl; have hcz65_1 : w64.cell? ⟨gb257, 1, none⟩ = some (.int .i64 t252) := (blk_cell BK257.out 1).trans rfl; have hcz65_2 : w64.cell? ⟨gb257, 2, none⟩ = some (.slice Ao15 t253.length co15) := (blk_cell BK257.out 2).trans rfl; have hfz65_0 := blk_frozen BK257.out 0; have hfz65_1 := blk_frozen BK257.out 1; have hfz65_2 := blk_frozen BK257.out 2) | ((with_reducible refine gate_callee (f := 12) rfl ?_); refine goesL_ (some 94) rfl rfl Try.func12 (by kernel_rfl) rfl #[.agg #[.int .i64 t251, .int .i64 t252, .slice Ao15 t253.length co15], .int .i64 (wrap64 (t265 + (Int.tmod (wrap64 (a3)) 40))), .int .i64 (wrap64 (1 + (Int.tmod (wrap64 (a1)) 8)))] rfl (by (try simp only [List.map_toArray, List.map_cons, List.map_nil]); first | done | rfl | (simp only [List.length_drop, List.length_take]; rfl)) ?_; (with_reducible refine (series_Window.calls kj28 t251 t252 _ _ t253 (wrap64 (t265 + (Int.tmod (wrap64 (a3)) 40))) (wrap64 (1 + (Int.tmod (wrap64 (a1)) 8))) t277 t280 _ ?side1 ?side2 A42.out).mono ?_); (case side1 => repeat (first | exact (Kd.R_reads' HO_258002.out).2.2 | (with_reducible refine Kd.C_alloc ?_ _) | (with_reducible refine Kd.C_drewN ?_ _) | (with_reducible refine Kd.C_drew ?_))); (case side2 => exact (Kd.R_reads' HO_258002.out).2.1); rintro e w66 ⟨v278, rfl, ho0, hb⟩; refine ⟨_, rfl, ?_⟩; have n0_ := Aside0.mk (Kd.R_elder' (by (with_reducible repeat (first | apply Kd.R_alloc | apply Kd.R_drewN | apply Kd.R_drew)); exact HO_258002.out) (Kd.R_base ho0) hb); have n1_ := Aside0.mk (Kd.R_elder' (by (with_reducible repeat (first | apply Kd.R_alloc | apply Kd.R_drewN | apply Kd.R_drew)); exact HO_273002.out) (Kd.R_base ho0) hb); have n2_ := Aside0.mk (Kd.R_elder' (by (with_reducible repeat (first | apply Kd.R_alloc | apply Kd.R_drewN | apply Kd.R_drew)); exact HO275.out) (Kd.R_base ho0) hb); have n3_ := Aside0.mk (Kd.R_lower (Kd.R_new' (Kd.R_new' (Kd.R_new' ho0 (Kd.R_lt (by (with_reducible repeat (first | apply Kd.R_alloc | apply Kd.R_drewN | apply Kd.R_drew)); exact HO_258002.out))) (Kd.R_lt (by (with_reducible repeat (first | apply Kd.R_alloc | apply Kd.R_drewN | apply Kd.R_drew)); exact HO_273002.out))) (Kd.R_lt (by (with_reducible repeat (first | apply Kd.R_alloc | apply Kd.R_drewN | apply Kd.R_drew)); exact HO275.out))) (below_size (by repeat (first | (with_reducible first | exact HB.out | apply below_alloc | apply pw_below_drewN | apply below_drew1 | refine below_set ?_ GE257.out | refine below_set ?_ GE272.out) | exact HB.out)))); have n4_ := Aside0.mk (blk_below (g := gb257) (o := .cells #[.int .i64 t251, .int .i64 t252, .slice Ao15 t253.length co15] 24 (0, 0)) (by (with_reducible repeat (first | refine blk_drewN ?_ _ | refine blk_drew ?_ | refine blk_alloc ?_ _)); exact BK257.out) hb); have n5_ := Aside0.mk (blk_below (g := gb272) (o := .cells #[.int .i64 t266, .int .i64 t267, .slice Ao35 t268.length co35] 24 (0, 0)) (by (with_reducible repeat (first | refine blk_drewN ?_ _ | refine blk_drew ?_ | refine blk_alloc ?_ _)); exact BK272.out) hb); have n6_ := Aside0.mk (below_step (by repeat (first | (with_reducible first | exact HB.out | apply below_alloc | apply pw_below_drewN | apply below_drew1 | refine below_set ?_ GE257.out | refine below_set ?_ GE272.out) | exact HB.out)) hb); clear HO_258002; clear HO_273002; clear HO275; clear BK257; clear BK272; clear HB; have HO_258002 := n0_; have HO_273002 := n1_; have HO275 := n2_; have HO279 := n3_; have BK257 := n4_; have BK272 := n5_; have HB := n6_; clear n0_ n1_ n2_ n3_ n4_ n5_ n6_; (try clear hb); (try clear hb2); (try clear hk); (try clear hi); (try clear ho0)))
                go_ret
                exact ⟨by first | rfl | (simp [errW_none, errW_some] <;> rfl) | (simp [*, errW_none, errW_some] <;> rfl), by repeat (first | (with_reducible first | exact HB.out | apply below_alloc | apply pw_below_drewN | apply below_drew1 | refine below_set ?_ GE257.out | refine below_set ?_ GE272.out) | exact HB.out)⟩

/-- THE ONE PURE STATEMENT of shapesearchlaw09_SeriesLonger: yours. -/
def shapesearchlaw09_SeriesLonger.Pure : Prop := ∀ (l0 : List Int) (a1 : Int) (a2 : Int) (a3 : Int), l0.length ≤ maxLen → l0.length * 8 ≤ 140737488351232 → (∀ x ∈ l0, (Lit.int .i64 x).wf = true) → (Lit.int .u8 a1).wf = true → (Lit.int .u8 a2).wf = true → (Lit.int .u8 a3).wf = true → ∃ k, shapesearchlaw09_SeriesLonger.f k l0 a1 a2 a3 = some true
theorem shapesearchlaw09_SeriesLonger.walk (P : shapesearchlaw09_SeriesLonger.Pure) (a0 : Option Addr) (len0 cap0 : Nat) (z0 : List Int) (a1 : Int) (a2 : Int) (a3 : Int) (w : World) (w0 : (a0 = none ∧ len0 = 0 ∧ cap0 = 0 ∧ z0 = []) ∨ ∃ x, a0 = some x ∧ len0 ≤ cap0 ∧ cap0 ≤ maxLen ∧ z0.length = cap0 ∧ (∀ i, i < z0.length → w.cell? (x.add i) = some (.int .i64 (z0.getD i 0))) ∧ ∀ n ∈ z0, (Lit.int .i64 n).wf = true) (y0 : len0 * 8 ≤ 140737488351232) (w1 : (Lit.int .u8 a1).wf = true) (w2 : (Lit.int .u8 a2).wf = true) (w3 : (Lit.int .u8 a3).wf = true) :
    Calls Try.prog 4 #[.slice a0 len0 cap0, .int .u8 a1, .int .u8 a2, .int .u8 a3] w fun e w' => e = .returned (.bool true) ∧ Below w.heap.size w w' := by
  obtain ⟨l0, rfl, hr0, hm0, hw0, hc0⟩ := ReadsInt.ofRowC w0
  obtain ⟨k, h⟩ := P l0 a1 a2 a3 hm0 y0 hw0 w1 w2 w3
  refine (shapesearchlaw09_SeriesLonger.calls k _ _ l0 a1 a2 a3 true w (Kd.C_of_reads (d := (0 : Int)) (h1 := fun _ => rfl) hr0) hc0 h).mono ?_
  rintro e w' ⟨rfl, hd⟩
  exact ⟨rfl, hd⟩

end Go.Proofs.Ytklghejinlhjpaa.PSeriesLonger
