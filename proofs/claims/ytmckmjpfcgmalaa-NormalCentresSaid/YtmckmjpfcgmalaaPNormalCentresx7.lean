/- This file proves, function by function, what the Go functions that one law uses compute; most of it was printed by a program (wip/tools of this session, over the kit's print). -/
import Derived.Test.YtmckmjpfcgmalaaPNormalCentresx0
import Derived.Test.YtmckmjpfcgmalaaPNormalCentresx2
import Derived.Test.YtmckmjpfcgmalaaPNormalCentresx3
import Derived.Test.YtmckmjpfcgmalaaPNormalCentresx6
namespace Go.Proofs.Ytmckmjpfcgmalaa.PNormalCentres
open Go.RowKit Go.Proofs.YtmckmjpfcgmalaaW.PrintWords Go.Proofs.YtmckmjpfcgmalaaW.PrintLast Go.Proofs.YtmckmjpfcgmalaaW.PrintMore
attribute [local go_sem] max2_int min2_int max_two min_two max_three min_three max_four min_four   -- for this text's walks alone
set_option linter.unusedVariables false
set_option linter.unusedSimpArgs false

/-! ### shapesearchlaw13_NormalCentres: function 4 -/
mutual
def shapesearchlaw13_NormalCentres.j0 : Nat → List Int → List Int → List Int → Int → Int → Int → Bool → Option (Bool)
  | 0, _, _, _, _, _, _, _ => none
  | k + 1, x4, x6, x8, x10, x12, x14, x85 => if x85 = true then (some false) else (shapesearchlaw13_NormalCentres.l0 k x4 x6 x8 x10 x12 x14 0 0 (x6.length : Int) 0)
def shapesearchlaw13_NormalCentres.l0 : Nat → List Int → List Int → List Int → Int → Int → Int → Int → Int → Int → Int → Option (Bool)
  | 0, _, _, _, _, _, _, _, _, _, _ => none
  | k + 1, x4, x6, x8, x10, x12, x14, x16, x17, x87, x88 => if x88 < x87 then (if 0 ≤ x88 then (if x88 < (x6.length : Int) then (if x88 < (x8.length : Int) then (shapesearchlaw13_NormalCentres.l0 k x4 x6 x8 x10 x12 x14 (wrap64 (x16 + (rd x6 x88))) (wrap64 (x17 + (wrap64 ((rd x6 x88) * (rd x8 x88))))) x87 (wrap64 (x88 + 1))) else (none)) else (none)) else (none)) else (if x16 = 0 then (if x17 = (wrap64 ((x4.length : Int) * x10)) then (if (wrap64 (x10 * x10)) ≤ (wrap64 (x12 * x14)) then ((shapesearchlaw13_awake.f k).bind fun t325 => (some t325)) else (some false)) else (some false)) else (some false))
end
def shapesearchlaw13_NormalCentres.f (k : Nat) (l0 : List Int) : Option (Bool) := (shapesearchkeep_New.f l0).bind fun bt298 => ((shapesearchkeep_Src_Pair.f k bt298.1 bt298.2).bind fun bt301 => ((normal_Centred.f k bt301.1).bind fun bt308 => ((normal_Centred.f k bt301.2.1).bind fun bt312 => ((normal_Product.f k bt301.1 bt301.2.1).bind fun bt316 => ((normal_Product.f k bt301.1 bt301.1).bind fun bt318 => ((normal_Product.f k bt301.2.1 bt301.2.1).bind fun bt320 => (if bt308.2 = 0 then (if bt312.2 = 0 then (if bt316.2 = 0 then (if bt318.2 = 0 then (if bt320.2 = 0 then (if (bt308.1.length : Int) = (bt301.1.length : Int) then (shapesearchlaw13_NormalCentres.j0 k bt301.1 bt308.1 bt312.1 bt316.1 bt318.1 bt320.1 ((bt312.1.length : Int) != (bt301.1.length : Int))) else (shapesearchlaw13_NormalCentres.j0 k bt301.1 bt308.1 bt312.1 bt316.1 bt318.1 bt320.1 true)) else (shapesearchlaw13_NormalCentres.j0 k bt301.1 bt308.1 bt312.1 bt316.1 bt318.1 bt320.1 true)) else (shapesearchlaw13_NormalCentres.j0 k bt301.1 bt308.1 bt312.1 bt316.1 bt318.1 bt320.1 true)) else (shapesearchlaw13_NormalCentres.j0 k bt301.1 bt308.1 bt312.1 bt316.1 bt318.1 bt320.1 true)) else (shapesearchlaw13_NormalCentres.j0 k bt301.1 bt308.1 bt312.1 bt316.1 bt318.1 bt320.1 true)) else (shapesearchlaw13_NormalCentres.j0 k bt301.1 bt308.1 bt312.1 bt316.1 bt318.1 bt320.1 true))))))))
theorem shapesearchlaw13_NormalCentres.mono_l : ∀ k, (∀ y0 y1 y2 y3 y4 y5 y6, LeO (shapesearchlaw13_NormalCentres.j0 k y0 y1 y2 y3 y4 y5 y6) (shapesearchlaw13_NormalCentres.j0 (k + 1) y0 y1 y2 y3 y4 y5 y6)) ∧ (∀ y0 y1 y2 y3 y4 y5 y6 y7 y8 y9, LeO (shapesearchlaw13_NormalCentres.l0 k y0 y1 y2 y3 y4 y5 y6 y7 y8 y9) (shapesearchlaw13_NormalCentres.l0 (k + 1) y0 y1 y2 y3 y4 y5 y6 y7 y8 y9))
  | 0 => ⟨fun _ _ _ _ _ _ _ r h => by simp [shapesearchlaw13_NormalCentres.j0] at h, fun _ _ _ _ _ _ _ _ _ _ r h => by simp [shapesearchlaw13_NormalCentres.l0] at h⟩
  | k + 1 => by
    obtain ⟨ih0, ih1⟩ := shapesearchlaw13_NormalCentres.mono_l k
    refine ⟨?_, ?_⟩
    · intro y0 y1 y2 y3 y4 y5 y6
      unfold shapesearchlaw13_NormalCentres.j0
      repeat' first
      | (with_reducible exact ih0 _ _ _ _ _ _ _)
      | (with_reducible exact ih1 _ _ _ _ _ _ _ _ _ _)
      | (with_reducible exact normal_Centred.mono _ _)
      | (with_reducible exact normal_Product.mono _ _ _)
      | (with_reducible exact shapesearchkeep_Src_Pair.mono _ _ _)
      | (with_reducible exact shapesearchlaw13_awake.mono _)
      | (with_reducible exact LeO.refl _)
      | (with_reducible exact LeO.none _)
      | (with_reducible refine LeO.ite ?_ ?_)
      | (with_reducible refine LeO.bind ?_ (fun _ => ?_))
      | exact ih0 _ _ _ _ _ _ _
      | exact ih1 _ _ _ _ _ _ _ _ _ _
      | exact normal_Centred.mono _ _
      | exact normal_Product.mono _ _ _
      | exact shapesearchkeep_Src_Pair.mono _ _ _
      | exact shapesearchlaw13_awake.mono _
      | exact LeO.none _
      | refine LeO.ite ?_ ?_
      | refine LeO.bind ?_ (fun _ => ?_)
    · intro y0 y1 y2 y3 y4 y5 y6 y7 y8 y9
      unfold shapesearchlaw13_NormalCentres.l0
      repeat' first
      | (with_reducible exact ih0 _ _ _ _ _ _ _)
      | (with_reducible exact ih1 _ _ _ _ _ _ _ _ _ _)
      | (with_reducible exact normal_Centred.mono _ _)
      | (with_reducible exact normal_Product.mono _ _ _)
      | (with_reducible exact shapesearchkeep_Src_Pair.mono _ _ _)
      | (with_reducible exact shapesearchlaw13_awake.mono _)
      | (with_reducible exact LeO.refl _)
      | (with_reducible exact LeO.none _)
      | (with_reducible refine LeO.ite ?_ ?_)
      | (with_reducible refine LeO.bind ?_ (fun _ => ?_))
      | exact ih0 _ _ _ _ _ _ _
      | exact ih1 _ _ _ _ _ _ _ _ _ _
      | exact normal_Centred.mono _ _
      | exact normal_Product.mono _ _ _
      | exact shapesearchkeep_Src_Pair.mono _ _ _
      | exact shapesearchlaw13_awake.mono _
      | exact LeO.none _
      | refine LeO.ite ?_ ?_
      | refine LeO.bind ?_ (fun _ => ?_)
theorem shapesearchlaw13_NormalCentres.mono : ∀ a0 k, LeO (shapesearchlaw13_NormalCentres.f k a0) (shapesearchlaw13_NormalCentres.f (k + 1) a0) := by
  intro a0 k
  obtain ⟨ih0, ih1⟩ := shapesearchlaw13_NormalCentres.mono_l k
  unfold shapesearchlaw13_NormalCentres.f
  repeat' first
      | (with_reducible exact ih0 _ _ _ _ _ _ _)
      | (with_reducible exact ih1 _ _ _ _ _ _ _ _ _ _)
      | (with_reducible exact normal_Centred.mono _ _)
      | (with_reducible exact normal_Product.mono _ _ _)
      | (with_reducible exact shapesearchkeep_Src_Pair.mono _ _ _)
      | (with_reducible exact shapesearchlaw13_awake.mono _)
      | (with_reducible exact LeO.refl _)
      | (with_reducible exact LeO.none _)
      | (with_reducible refine LeO.ite ?_ ?_)
      | (with_reducible refine LeO.bind ?_ (fun _ => ?_))
      | exact ih0 _ _ _ _ _ _ _
      | exact ih1 _ _ _ _ _ _ _ _ _ _
      | exact normal_Centred.mono _ _
      | exact normal_Product.mono _ _ _
      | exact shapesearchkeep_Src_Pair.mono _ _ _
      | exact shapesearchlaw13_awake.mono _
      | exact LeO.none _
      | refine LeO.ite ?_ ?_
      | refine LeO.bind ?_ (fun _ => ?_)
set_option maxHeartbeats 8000000 in
set_option maxRecDepth 100000 in
theorem shapesearchlaw13_NormalCentres.calls (k : Nat) (A0 : Option Addr) (c0 : Nat) (l0 : List Int) (r : Bool) (w : World) (hr0 : Kd.C (Kd.int .i64) w A0 l0.length l0) (hc0 : l0.length ≤ c0) (h : shapesearchlaw13_NormalCentres.f k l0 = some r) :
    Calls Try.prog 4 #[.slice A0 l0.length c0] w fun e w' => e = .returned (.bool r) ∧ Below w.heap.size w w' := by
  have HR0 := Aside0.mk hr0
  have HC0 := Aside0.mk hc0
  clear hr0 hc0
  have HB := Aside0.mk (Below.refl w.heap.size w)
  have H : ((shapesearchkeep_New.f l0).bind fun bt298 => ((shapesearchkeep_Src_Pair.f k bt298.1 bt298.2).bind fun bt301 => ((normal_Centred.f k bt301.1).bind fun bt308 => ((normal_Centred.f k bt301.2.1).bind fun bt312 => ((normal_Product.f k bt301.1 bt301.2.1).bind fun bt316 => ((normal_Product.f k bt301.1 bt301.1).bind fun bt318 => ((normal_Product.f k bt301.2.1 bt301.2.1).bind fun bt320 => (if bt308.2 = 0 then (if bt312.2 = 0 then (if bt316.2 = 0 then (if bt318.2 = 0 then (if bt320.2 = 0 then (if (bt308.1.length : Int) = (bt301.1.length : Int) then (shapesearchlaw13_NormalCentres.j0 k bt301.1 bt308.1 bt312.1 bt316.1 bt318.1 bt320.1 ((bt312.1.length : Int) != (bt301.1.length : Int))) else (shapesearchlaw13_NormalCentres.j0 k bt301.1 bt308.1 bt312.1 bt316.1 bt318.1 bt320.1 true)) else (shapesearchlaw13_NormalCentres.j0 k bt301.1 bt308.1 bt312.1 bt316.1 bt318.1 bt320.1 true)) else (shapesearchlaw13_NormalCentres.j0 k bt301.1 bt308.1 bt312.1 bt316.1 bt318.1 bt320.1 true)) else (shapesearchlaw13_NormalCentres.j0 k bt301.1 bt308.1 bt312.1 bt316.1 bt318.1 bt320.1 true)) else (shapesearchlaw13_NormalCentres.j0 k bt301.1 bt308.1 bt312.1 bt316.1 bt318.1 bt320.1 true)) else (shapesearchlaw13_NormalCentres.j0 k bt301.1 bt308.1 bt312.1 bt316.1 bt318.1 bt320.1 true))))))))) = some r := h
  clear h
  replace H := Option.bind_eq_some_iff.mp H
  obtain ⟨⟨t298, t299⟩, A20, H⟩ := H
  replace H : ((shapesearchkeep_Src_Pair.f k t298 t299).bind fun bt301 => ((normal_Centred.f k bt301.1).bind fun bt308 => ((normal_Centred.f k bt301.2.1).bind fun bt312 => ((normal_Product.f k bt301.1 bt301.2.1).bind fun bt316 => ((normal_Product.f k bt301.1 bt301.1).bind fun bt318 => ((normal_Product.f k bt301.2.1 bt301.2.1).bind fun bt320 => (if bt308.2 = 0 then (if bt312.2 = 0 then (if bt316.2 = 0 then (if bt318.2 = 0 then (if bt320.2 = 0 then (if (bt308.1.length : Int) = (bt301.1.length : Int) then (shapesearchlaw13_NormalCentres.j0 k bt301.1 bt308.1 bt312.1 bt316.1 bt318.1 bt320.1 ((bt312.1.length : Int) != (bt301.1.length : Int))) else (shapesearchlaw13_NormalCentres.j0 k bt301.1 bt308.1 bt312.1 bt316.1 bt318.1 bt320.1 true)) else (shapesearchlaw13_NormalCentres.j0 k bt301.1 bt308.1 bt312.1 bt316.1 bt318.1 bt320.1 true)) else (shapesearchlaw13_NormalCentres.j0 k bt301.1 bt308.1 bt312.1 bt316.1 bt318.1 bt320.1 true)) else (shapesearchlaw13_NormalCentres.j0 k bt301.1 bt308.1 bt312.1 bt316.1 bt318.1 bt320.1 true)) else (shapesearchlaw13_NormalCentres.j0 k bt301.1 bt308.1 bt312.1 bt316.1 bt318.1 bt320.1 true)) else (shapesearchlaw13_NormalCentres.j0 k bt301.1 bt308.1 bt312.1 bt316.1 bt318.1 bt320.1 true)))))))) = some r := H
  have A2 := Aside0.mk A20
  clear A20
  replace H := Option.bind_eq_some_iff.mp H
  obtain ⟨⟨t301, t304, t307⟩, A30, H⟩ := H
  replace H : ((normal_Centred.f k t301).bind fun bt308 => ((normal_Centred.f k t304).bind fun bt312 => ((normal_Product.f k t301 t304).bind fun bt316 => ((normal_Product.f k t301 t301).bind fun bt318 => ((normal_Product.f k t304 t304).bind fun bt320 => (if bt308.2 = 0 then (if bt312.2 = 0 then (if bt316.2 = 0 then (if bt318.2 = 0 then (if bt320.2 = 0 then (if (bt308.1.length : Int) = (t301.length : Int) then (shapesearchlaw13_NormalCentres.j0 k t301 bt308.1 bt312.1 bt316.1 bt318.1 bt320.1 ((bt312.1.length : Int) != (t301.length : Int))) else (shapesearchlaw13_NormalCentres.j0 k t301 bt308.1 bt312.1 bt316.1 bt318.1 bt320.1 true)) else (shapesearchlaw13_NormalCentres.j0 k t301 bt308.1 bt312.1 bt316.1 bt318.1 bt320.1 true)) else (shapesearchlaw13_NormalCentres.j0 k t301 bt308.1 bt312.1 bt316.1 bt318.1 bt320.1 true)) else (shapesearchlaw13_NormalCentres.j0 k t301 bt308.1 bt312.1 bt316.1 bt318.1 bt320.1 true)) else (shapesearchlaw13_NormalCentres.j0 k t301 bt308.1 bt312.1 bt316.1 bt318.1 bt320.1 true)) else (shapesearchlaw13_NormalCentres.j0 k t301 bt308.1 bt312.1 bt316.1 bt318.1 bt320.1 true))))))) = some r := H
  have A3 := Aside0.mk A30
  clear A30
  replace H := Option.bind_eq_some_iff.mp H
  obtain ⟨⟨t308, t309⟩, A40, H⟩ := H
  replace H : ((normal_Centred.f k t304).bind fun bt312 => ((normal_Product.f k t301 t304).bind fun bt316 => ((normal_Product.f k t301 t301).bind fun bt318 => ((normal_Product.f k t304 t304).bind fun bt320 => (if t309 = 0 then (if bt312.2 = 0 then (if bt316.2 = 0 then (if bt318.2 = 0 then (if bt320.2 = 0 then (if (t308.length : Int) = (t301.length : Int) then (shapesearchlaw13_NormalCentres.j0 k t301 t308 bt312.1 bt316.1 bt318.1 bt320.1 ((bt312.1.length : Int) != (t301.length : Int))) else (shapesearchlaw13_NormalCentres.j0 k t301 t308 bt312.1 bt316.1 bt318.1 bt320.1 true)) else (shapesearchlaw13_NormalCentres.j0 k t301 t308 bt312.1 bt316.1 bt318.1 bt320.1 true)) else (shapesearchlaw13_NormalCentres.j0 k t301 t308 bt312.1 bt316.1 bt318.1 bt320.1 true)) else (shapesearchlaw13_NormalCentres.j0 k t301 t308 bt312.1 bt316.1 bt318.1 bt320.1 true)) else (shapesearchlaw13_NormalCentres.j0 k t301 t308 bt312.1 bt316.1 bt318.1 bt320.1 true)) else (shapesearchlaw13_NormalCentres.j0 k t301 t308 bt312.1 bt316.1 bt318.1 bt320.1 true)))))) = some r := H
  have A4 := Aside0.mk A40
  clear A40
  replace H := Option.bind_eq_some_iff.mp H
  obtain ⟨⟨t312, t313⟩, A50, H⟩ := H
  replace H : ((normal_Product.f k t301 t304).bind fun bt316 => ((normal_Product.f k t301 t301).bind fun bt318 => ((normal_Product.f k t304 t304).bind fun bt320 => (if t309 = 0 then (if t313 = 0 then (if bt316.2 = 0 then (if bt318.2 = 0 then (if bt320.2 = 0 then (if (t308.length : Int) = (t301.length : Int) then (shapesearchlaw13_NormalCentres.j0 k t301 t308 t312 bt316.1 bt318.1 bt320.1 ((t312.length : Int) != (t301.length : Int))) else (shapesearchlaw13_NormalCentres.j0 k t301 t308 t312 bt316.1 bt318.1 bt320.1 true)) else (shapesearchlaw13_NormalCentres.j0 k t301 t308 t312 bt316.1 bt318.1 bt320.1 true)) else (shapesearchlaw13_NormalCentres.j0 k t301 t308 t312 bt316.1 bt318.1 bt320.1 true)) else (shapesearchlaw13_NormalCentres.j0 k t301 t308 t312 bt316.1 bt318.1 bt320.1 true)) else (shapesearchlaw13_NormalCentres.j0 k t301 t308 t312 bt316.1 bt318.1 bt320.1 true)) else (shapesearchlaw13_NormalCentres.j0 k t301 t308 t312 bt316.1 bt318.1 bt320.1 true))))) = some r := H
  have A5 := Aside0.mk A50
  clear A50
  replace H := Option.bind_eq_some_iff.mp H
  obtain ⟨⟨t316, t317⟩, A60, H⟩ := H
  replace H : ((normal_Product.f k t301 t301).bind fun bt318 => ((normal_Product.f k t304 t304).bind fun bt320 => (if t309 = 0 then (if t313 = 0 then (if t317 = 0 then (if bt318.2 = 0 then (if bt320.2 = 0 then (if (t308.length : Int) = (t301.length : Int) then (shapesearchlaw13_NormalCentres.j0 k t301 t308 t312 t316 bt318.1 bt320.1 ((t312.length : Int) != (t301.length : Int))) else (shapesearchlaw13_NormalCentres.j0 k t301 t308 t312 t316 bt318.1 bt320.1 true)) else (shapesearchlaw13_NormalCentres.j0 k t301 t308 t312 t316 bt318.1 bt320.1 true)) else (shapesearchlaw13_NormalCentres.j0 k t301 t308 t312 t316 bt318.1 bt320.1 true)) else (shapesearchlaw13_NormalCentres.j0 k t301 t308 t312 t316 bt318.1 bt320.1 true)) else (shapesearchlaw13_NormalCentres.j0 k t301 t308 t312 t316 bt318.1 bt320.1 true)) else (shapesearchlaw13_NormalCentres.j0 k t301 t308 t312 t316 bt318.1 bt320.1 true)))) = some r := H
  have A6 := Aside0.mk A60
  clear A60
  replace H := Option.bind_eq_some_iff.mp H
  obtain ⟨⟨t318, t319⟩, A70, H⟩ := H
  replace H : ((normal_Product.f k t304 t304).bind fun bt320 => (if t309 = 0 then (if t313 = 0 then (if t317 = 0 then (if t319 = 0 then (if bt320.2 = 0 then (if (t308.length : Int) = (t301.length : Int) then (shapesearchlaw13_NormalCentres.j0 k t301 t308 t312 t316 t318 bt320.1 ((t312.length : Int) != (t301.length : Int))) else (shapesearchlaw13_NormalCentres.j0 k t301 t308 t312 t316 t318 bt320.1 true)) else (shapesearchlaw13_NormalCentres.j0 k t301 t308 t312 t316 t318 bt320.1 true)) else (shapesearchlaw13_NormalCentres.j0 k t301 t308 t312 t316 t318 bt320.1 true)) else (shapesearchlaw13_NormalCentres.j0 k t301 t308 t312 t316 t318 bt320.1 true)) else (shapesearchlaw13_NormalCentres.j0 k t301 t308 t312 t316 t318 bt320.1 true)) else (shapesearchlaw13_NormalCentres.j0 k t301 t308 t312 t316 t318 bt320.1 true))) = some r := H
  have A7 := Aside0.mk A70
  clear A70
  replace H := Option.bind_eq_some_iff.mp H
  obtain ⟨⟨t320, t321⟩, A80, H⟩ := H
  replace H : (if t309 = 0 then (if t313 = 0 then (if t317 = 0 then (if t319 = 0 then (if t321 = 0 then (if (t308.length : Int) = (t301.length : Int) then (shapesearchlaw13_NormalCentres.j0 k t301 t308 t312 t316 t318 t320 ((t312.length : Int) != (t301.length : Int))) else (shapesearchlaw13_NormalCentres.j0 k t301 t308 t312 t316 t318 t320 true)) else (shapesearchlaw13_NormalCentres.j0 k t301 t308 t312 t316 t318 t320 true)) else (shapesearchlaw13_NormalCentres.j0 k t301 t308 t312 t316 t318 t320 true)) else (shapesearchlaw13_NormalCentres.j0 k t301 t308 t312 t316 t318 t320 true)) else (shapesearchlaw13_NormalCentres.j0 k t301 t308 t312 t316 t318 t320 true)) else (shapesearchlaw13_NormalCentres.j0 k t301 t308 t312 t316 t318 t320 true)) = some r := H
  have A8 := Aside0.mk A80
  clear A80
  have HC9 := Aside0.mk H
  clear H
  go_enter Try.func4, Try.ntmps4
  go_upto_region 8 with (first | (go_at_call 9; (with_reducible refine (shapesearchkeep_New.calls _ _ l0 t298 t299 w _ ?side1 ?side2 ?side3 A2.out).mono ?_); (case side1 => repeat (first | (with_reducible first | exact HB.out | apply below_alloc | apply pw_below_drewN | apply below_drew1) | exact HB.out)); (case side2 => exact HR0.out); (case side3 => exact HC0.out); rintro e w10 ⟨g300, rfl, hi, hb, hb2⟩; have n0_ := Aside0.mk (hb); have n1_ := Aside0.mk (hi); clear HB; have HB := n0_; have HI300 := n1_; clear n0_ n1_; (try clear hb); (try clear hb2); (try clear hk); (try clear hi)) | (go_at_call 10; (with_reducible refine (shapesearchkeep_Src_Pair.calls k g300 t298 t299 t301 t304 t307 w _ ?side1 ?side2 A3.out).mono ?_); (case side1 => repeat (first | (with_reducible first | exact HI300.out | apply IsS58.alloc | apply IsS58.drewN | apply IsS58.drew | apply IsS58.set_1) | exact HI300.out)); (case side2 => repeat (first | (with_reducible first | exact HB.out | apply below_alloc | apply pw_below_drewN | apply below_drew1 | refine below_set ?_ (IsS58.ge HI300.out)) | exact HB.out)); rintro e w11 ⟨v302, v305, rfl, ho0, ho1, hi, hb, hk⟩; have n0_ := Aside0.mk (Kd.R_lower ho0 (below_size (by repeat (first | (with_reducible first | exact HB.out | apply below_alloc | apply pw_below_drewN | apply below_drew1 | refine below_set ?_ (IsS58.ge HI300.out)) | exact HB.out)))); have n1_ := Aside0.mk (Kd.R_lower ho1 (below_size (by repeat (first | (with_reducible first | exact HB.out | apply below_alloc | apply pw_below_drewN | apply below_drew1 | refine below_set ?_ (IsS58.ge HI300.out)) | exact HB.out)))); have n2_ := Aside0.mk (hb); have n3_ := Aside0.mk (hi); clear HB; clear HI300; have HO303 := n0_; have HO306 := n1_; have HB := n2_; have HI300 := n3_; clear n0_ n1_ n2_ n3_; (try clear hb); (try clear hb2); (try clear hk); (try clear hi); (try clear ho0); (try clear ho1); obtain ⟨Ao12, co12, eo12⟩ := Kd.R_slice HO303.out; subst eo12) | (go_at_call 14; (with_reducible refine (normal_Centred.calls k _ _ t301 t308 t309 _ ?side1 ?side2 A4.out).mono ?_); (case side1 => repeat (first | exact (Kd.R_reads' HO303.out).2.2 | (with_reducible refine Kd.C_alloc ?_ _) | (with_reducible refine Kd.C_drewN ?_ _) | (with_reducible refine Kd.C_drew ?_))); (case side2 => exact (Kd.R_reads' HO303.out).2.1); rintro e w13 ⟨v310, rfl, ho0, hb⟩; have n0_ := Aside0.mk (Kd.R_elder' (by (with_reducible repeat (first | apply Kd.R_alloc | apply Kd.R_drewN | apply Kd.R_drew)); exact HO303.out) (Kd.R_base ho0) hb); have n1_ := Aside0.mk (Kd.R_elder' (by (with_reducible repeat (first | apply Kd.R_alloc | apply Kd.R_drewN | apply Kd.R_drew)); exact HO306.out) (Kd.R_base ho0) hb); have n2_ := Aside0.mk (Kd.R_lower (Kd.R_new' (Kd.R_new' ho0 (Kd.R_lt (by (with_reducible repeat (first | apply Kd.R_alloc | apply Kd.R_drewN | apply Kd.R_drew)); exact HO303.out))) (Kd.R_lt (by (with_reducible repeat (first | apply Kd.R_alloc | apply Kd.R_drewN | apply Kd.R_drew)); exact HO306.out))) (below_size (by repeat (first | (with_reducible first | exact HB.out | apply below_alloc | apply pw_below_drewN | apply below_drew1 | refine below_set ?_ (IsS58.ge HI300.out)) | exact HB.out)))); have n3_ := Aside0.mk (IsS58.below (by repeat (first | (with_reducible first | exact HI300.out | apply IsS58.alloc | apply IsS58.drewN | apply IsS58.drew | apply IsS58.set_1) | exact HI300.out)) hb); have n4_ := Aside0.mk (below_step (by repeat (first | (with_reducible first | exact HB.out | apply below_alloc | apply pw_below_drewN | apply below_drew1 | refine below_set ?_ (IsS58.ge HI300.out)) | exact HB.out)) hb); clear HO303; clear HO306; clear HI300; clear HB; have HO303 := n0_; have HO306 := n1_; have HO311 := n2_; have HI300 := n3_; have HB := n4_; clear n0_ n1_ n2_ n3_ n4_; (try clear hb); (try clear hb2); (try clear hk); (try clear hi); (try clear ho0); obtain ⟨Ao14, co14, eo14⟩ := Kd.R_slice HO306.out; subst eo14) | (go_at_call 14; (with_reducible refine (normal_Centred.calls k _ _ t304 t312 t313 _ ?side1 ?side2 A5.out).mono ?_); (case side1 => repeat (first | exact (Kd.R_reads' HO306.out).2.2 | (with_reducible refine Kd.C_alloc ?_ _) | (with_reducible refine Kd.C_drewN ?_ _) | (with_reducible refine Kd.C_drew ?_))); (case side2 => exact (Kd.R_reads' HO306.out).2.1); rintro e w15 ⟨v314, rfl, ho0, hb⟩; have n0_ := Aside0.mk (Kd.R_elder' (by (with_reducible repeat (first | apply Kd.R_alloc | apply Kd.R_drewN | apply Kd.R_drew)); exact HO303.out) (Kd.R_base ho0) hb); have n1_ := Aside0.mk (Kd.R_elder' (by (with_reducible repeat (first | apply Kd.R_alloc | apply Kd.R_drewN | apply Kd.R_drew)); exact HO306.out) (Kd.R_base ho0) hb); have n2_ := Aside0.mk (Kd.R_elder' (by (with_reducible repeat (first | apply Kd.R_alloc | apply Kd.R_drewN | apply Kd.R_drew)); exact HO311.out) (Kd.R_base ho0) hb); have n3_ := Aside0.mk (Kd.R_lower (Kd.R_new' (Kd.R_new' (Kd.R_new' ho0 (Kd.R_lt (by (with_reducible repeat (first | apply Kd.R_alloc | apply Kd.R_drewN | apply Kd.R_drew)); exact HO303.out))) (Kd.R_lt (by (with_reducible repeat (first | apply Kd.R_alloc | apply Kd.R_drewN | apply Kd.R_drew)); exact HO306.out))) (Kd.R_lt (by (with_reducible repeat (first | apply Kd.R_alloc | apply Kd.R_drewN | apply Kd.R_drew)); exact HO311.out))) (below_size (by repeat (first | (with_reducible first | exact HB.out | apply below_alloc | apply pw_below_drewN | apply below_drew1 | refine below_set ?_ (IsS58.ge HI300.out)) | exact HB.out)))); have n4_ := Aside0.mk (IsS58.below (by repeat (first | (with_reducible first | exact HI300.out | apply IsS58.alloc | apply IsS58.drewN | apply IsS58.drew | apply IsS58.set_1) | exact HI300.out)) hb); have n5_ := Aside0.mk (below_step (by repeat (first | (with_reducible first | exact HB.out | apply below_alloc | apply pw_below_drewN | apply below_drew1 | refine below_set ?_ (IsS58.ge HI300.out)) | exact HB.out)) hb); clear HO303; clear HO306; clear HO311; clear HI300; clear HB; have HO303 := n0_; have HO306 := n1_; have HO311 := n2_; have HO315 := n3_; have HI300 := n4_; have HB := n5_; clear n0_ n1_ n2_ n3_ n4_ n5_; (try clear hb); (try clear hb2); (try clear hk); (try clear hi); (try clear ho0)) | (go_at_call 15; (with_reducible refine (normal_Product.calls k _ _ t301 _ _ t304 t316 t317 _ ?side1 ?side2 ?side3 ?side4 A6.out).mono ?_); (case side1 => repeat (first | exact (Kd.R_reads' HO303.out).2.2 | (with_reducible refine Kd.C_alloc ?_ _) | (with_reducible refine Kd.C_drewN ?_ _) | (with_reducible refine Kd.C_drew ?_))); (case side2 => exact (Kd.R_reads' HO303.out).2.1); (case side3 => repeat (first | exact (Kd.R_reads' HO306.out).2.2 | (with_reducible refine Kd.C_alloc ?_ _) | (with_reducible refine Kd.C_drewN ?_ _) | (with_reducible refine Kd.C_drew ?_))); (case side4 => exact (Kd.R_reads' HO306.out).2.1); rintro e w' ⟨rfl, ⟨nd, rfl⟩⟩; (try first | exact ⟨rfl, _, World.drewN_drewN _ _ _⟩ | exact ⟨rfl, _, Eq.trans (World.drewN_drewN _ _ _) (congrArg (World.drewN _) (Nat.add_assoc _ _ _))⟩)) | (go_at_call 15; (with_reducible refine (normal_Product.calls k _ _ t301 _ _ t301 t318 t319 _ ?side1 ?side2 ?side3 ?side4 A7.out).mono ?_); (case side1 => repeat (first | exact (Kd.R_reads' HO303.out).2.2 | (with_reducible refine Kd.C_alloc ?_ _) | (with_reducible refine Kd.C_drewN ?_ _) | (with_reducible refine Kd.C_drew ?_))); (case side2 => exact (Kd.R_reads' HO303.out).2.1); (case side3 => repeat (first | exact (Kd.R_reads' HO303.out).2.2 | (with_reducible refine Kd.C_alloc ?_ _) | (with_reducible refine Kd.C_drewN ?_ _) | (with_reducible refine Kd.C_drew ?_))); (case side4 => exact (Kd.R_reads' HO303.out).2.1); rintro e w' ⟨rfl, ⟨nd, rfl⟩⟩; (try first | exact ⟨rfl, _, World.drewN_drewN _ _ _⟩ | exact ⟨rfl, _, Eq.trans (World.drewN_drewN _ _ _) (congrArg (World.drewN _) (Nat.add_assoc _ _ _))⟩)) | (go_at_call 15; (with_reducible refine (normal_Product.calls k _ _ t304 _ _ t304 t320 t321 _ ?side1 ?side2 ?side3 ?side4 A8.out).mono ?_); (case side1 => repeat (first | exact (Kd.R_reads' HO306.out).2.2 | (with_reducible refine Kd.C_alloc ?_ _) | (with_reducible refine Kd.C_drewN ?_ _) | (with_reducible refine Kd.C_drew ?_))); (case side2 => exact (Kd.R_reads' HO306.out).2.1); (case side3 => repeat (first | exact (Kd.R_reads' HO306.out).2.2 | (with_reducible refine Kd.C_alloc ?_ _) | (with_reducible refine Kd.C_drewN ?_ _) | (with_reducible refine Kd.C_drew ?_))); (case side4 => exact (Kd.R_reads' HO306.out).2.1); rintro e w' ⟨rfl, ⟨nd, rfl⟩⟩; (try first | exact ⟨rfl, _, World.drewN_drewN _ _ _⟩ | exact ⟨rfl, _, Eq.trans (World.drewN_drewN _ _ _) (congrArg (World.drewN _) (Nat.add_assoc _ _ _))⟩)))
  repeat (go_quiet (first | (go_at_call 9; (with_reducible refine (shapesearchkeep_New.calls _ _ l0 t298 t299 w _ ?side1 ?side2 ?side3 A2.out).mono ?_); (case side1 => repeat (first | (with_reducible first | exact HB.out | apply below_alloc | apply pw_below_drewN | apply below_drew1) | exact HB.out)); (case side2 => exact HR0.out); (case side3 => exact HC0.out); rintro e w10 ⟨g300, rfl, hi, hb, hb2⟩; have n0_ := Aside0.mk (hb); have n1_ := Aside0.mk (hi); clear HB; have HB := n0_; have HI300 := n1_; clear n0_ n1_; (try clear hb); (try clear hb2); (try clear hk); (try clear hi)) | (go_at_call 10; (with_reducible refine (shapesearchkeep_Src_Pair.calls k g300 t298 t299 t301 t304 t307 w _ ?side1 ?side2 A3.out).mono ?_); (case side1 => repeat (first | (with_reducible first | exact HI300.out | apply IsS58.alloc | apply IsS58.drewN | apply IsS58.drew | apply IsS58.set_1) | exact HI300.out)); (case side2 => repeat (first | (with_reducible first | exact HB.out | apply below_alloc | apply pw_below_drewN | apply below_drew1 | refine below_set ?_ (IsS58.ge HI300.out)) | exact HB.out)); rintro e w11 ⟨v302, v305, rfl, ho0, ho1, hi, hb, hk⟩; have n0_ := Aside0.mk (Kd.R_lower ho0 (below_size (by repeat (first | (with_reducible first | exact HB.out | apply below_alloc | apply pw_below_drewN | apply below_drew1 | refine below_set ?_ (IsS58.ge HI300.out)) | exact HB.out)))); have n1_ := Aside0.mk (Kd.R_lower ho1 (below_size (by repeat (first | (with_reducible first | exact HB.out | apply below_alloc | apply pw_below_drewN | apply below_drew1 | refine below_set ?_ (IsS58.ge HI300.out)) | exact HB.out)))); have n2_ := Aside0.mk (hb); have n3_ := Aside0.mk (hi); clear HB; clear HI300; have HO303 := n0_; have HO306 := n1_; have HB := n2_; have HI300 := n3_; clear n0_ n1_ n2_ n3_; (try clear hb); (try clear hb2); (try clear hk); (try clear hi); (try clear ho0); (try clear ho1); obtain ⟨Ao12, co12, eo12⟩ := Kd.R_slice HO303.out; subst eo12) | (go_at_call 14; (with_reducible refine (normal_Centred.calls k _ _ t301 t308 t309 _ ?side1 ?side2 A4.out).mono ?_); (case side1 => repeat (first | exact (Kd.R_reads' HO303.out).2.2 | (with_reducible refine Kd.C_alloc ?_ _) | (with_reducible refine Kd.C_drewN ?_ _) | (with_reducible refine Kd.C_drew ?_))); (case side2 => exact (Kd.R_reads' HO303.out).2.1); rintro e w13 ⟨v310, rfl, ho0, hb⟩; have n0_ := Aside0.mk (Kd.R_elder' (by (with_reducible repeat (first | apply Kd.R_alloc | apply Kd.R_drewN | apply Kd.R_drew)); exact HO303.out) (Kd.R_base ho0) hb); have n1_ := Aside0.mk (Kd.R_elder' (by (with_reducible repeat (first | apply Kd.R_alloc | apply Kd.R_drewN | apply Kd.R_drew)); exact HO306.out) (Kd.R_base ho0) hb); have n2_ := Aside0.mk (Kd.R_lower (Kd.R_new' (Kd.R_new' ho0 (Kd.R_lt (by (with_reducible repeat (first | apply Kd.R_alloc | apply Kd.R_drewN | apply Kd.R_drew)); exact HO303.out))) (Kd.R_lt (by (with_reducible repeat (first | apply Kd.R_alloc | apply Kd.R_drewN | apply Kd.R_drew)); exact HO306.out))) (below_size (by repeat (first | (with_reducible first | exact HB.out | apply below_alloc | apply pw_below_drewN | apply below_drew1 | refine below_set ?_ (IsS58.ge HI300.out)) | exact HB.out)))); have n3_ := Aside0.mk (IsS58.below (by repeat (first | (with_reducible first | exact HI300.out | apply IsS58.alloc | apply IsS58.drewN | apply IsS58.drew | apply IsS58.set_1) | exact HI300.out)) hb); have n4_ := Aside0.mk (below_step (by repeat (first | (with_reducible first | exact HB.out | apply below_alloc | apply pw_below_drewN | apply below_drew1 | refine below_set ?_ (IsS58.ge HI300.out)) | exact HB.out)) hb); clear HO303; clear HO306; clear HI300; clear HB; have HO303 := n0_; have HO306 := n1_; have HO311 := n2_; have HI300 := n3_; have HB := n4_; clear n0_ n1_ n2_ n3_ n4_; (try clear hb); (try clear hb2); (try clear hk); (try clear hi); (try clear ho0); obtain ⟨Ao14, co14, eo14⟩ := Kd.R_slice HO306.out; subst eo14) | (go_at_call 14; (with_reducible refine (normal_Centred.calls k _ _ t304 t312 t313 _ ?side1 ?side2 A5.out).mono ?_); (case side1 => repeat (first | exact (Kd.R_reads' HO306.out).2.2 | (with_reducible refine Kd.C_alloc ?_ _) | (with_reducible refine Kd.C_drewN ?_ _) | (with_reducible refine Kd.C_drew ?_))); (case side2 => exact (Kd.R_reads' HO306.out).2.1); rintro e w15 ⟨v314, rfl, ho0, hb⟩; have n0_ := Aside0.mk (Kd.R_elder' (by (with_reducible repeat (first | apply Kd.R_alloc | apply Kd.R_drewN | apply Kd.R_drew)); exact HO303.out) (Kd.R_base ho0) hb); have n1_ := Aside0.mk (Kd.R_elder' (by (with_reducible repeat (first | apply Kd.R_alloc | apply Kd.R_drewN | apply Kd.R_drew)); exact HO306.out) (Kd.R_base ho0) hb); have n2_ := Aside0.mk (Kd.R_elder' (by (with_reducible repeat (first | apply Kd.R_alloc | apply Kd.R_drewN | apply Kd.R_drew)); exact HO311.out) (Kd.R_base ho0) hb); have n3_ := Aside0.mk (Kd.R_lower (Kd.R_new' (Kd.R_new' (Kd.R_new' ho0 (Kd.R_lt (by (with_reducible repeat (first | apply Kd.R_alloc | apply Kd.R_drewN | apply Kd.R_drew)); exact HO303.out))) (Kd.R_lt (by (with_reducible repeat (first | apply Kd.R_alloc | apply Kd.R_drewN | apply Kd.R_drew)); exact HO306.out))) (Kd.R_lt (by (with_reducible repeat (first | apply Kd.R_alloc | apply Kd.R_drewN | apply Kd.R_drew)); exact HO311.out))) (below_size (by repeat (first | (with_reducible first | exact HB.out | apply below_alloc | apply pw_below_drewN | apply below_drew1 | refine below_set ?_ (IsS58.ge HI300.out)) | exact HB.out)))); have n4_ := Aside0.mk (IsS58.below (by repeat (first | (with_reducible first | exact HI300.out | apply IsS58.alloc | apply IsS58.drewN | apply IsS58.drew | apply IsS58.set_1) | exact HI300.out)) hb); have n5_ := Aside0.mk (below_step (by repeat (first | (with_reducible first | exact HB.out | apply below_alloc | apply pw_below_drewN | apply below_drew1 | refine below_set ?_ (IsS58.ge HI300.out)) | exact HB.out)) hb); clear HO303; clear HO306; clear HO311; clear HI300; clear HB; have HO303 := n0_; have HO306 := n1_; have HO311 := n2_; have HO315 := n3_; have HI300 := n4_; have HB := n5_; clear n0_ n1_ n2_ n3_ n4_ n5_; (try clear hb); (try clear hb2); (try clear hk); (try clear hi); (try clear ho0)) | (go_at_call 15; (with_reducible refine (normal_Product.calls k _ _ t301 _ _ t304 t316 t317 _ ?side1 ?side2 ?side3 ?side4 A6.out).mono ?_); (case side1 => repeat (first | exact (Kd.R_reads' HO303.out).2.2 | (with_reducible refine Kd.C_alloc ?_ _) | (with_reducible refine Kd.C_drewN ?_ _) | (with_reducible refine Kd.C_drew ?_))); (case side2 => exact (Kd.R_reads' HO303.out).2.1); (case side3 => repeat (first | exact (Kd.R_reads' HO306.out).2.2 | (with_reducible refine Kd.C_alloc ?_ _) | (with_reducible refine Kd.C_drewN ?_ _) | (with_reducible refine Kd.C_drew ?_))); (case side4 => exact (Kd.R_reads' HO306.out).2.1); rintro e w' ⟨rfl, ⟨nd, rfl⟩⟩; (try first | exact ⟨rfl, _, World.drewN_drewN _ _ _⟩ | exact ⟨rfl, _, Eq.trans (World.drewN_drewN _ _ _) (congrArg (World.drewN _) (Nat.add_assoc _ _ _))⟩)) | (go_at_call 15; (with_reducible refine (normal_Product.calls k _ _ t301 _ _ t301 t318 t319 _ ?side1 ?side2 ?side3 ?side4 A7.out).mono ?_); (case side1 => repeat (first | exact (Kd.R_reads' HO303.out).2.2 | (with_reducible refine Kd.C_alloc ?_ _) | (with_reducible refine Kd.C_drewN ?_ _) | (with_reducible refine Kd.C_drew ?_))); (case side2 => exact (Kd.R_reads' HO303.out).2.1); (case side3 => repeat (first | exact (Kd.R_reads' HO303.out).2.2 | (with_reducible refine Kd.C_alloc ?_ _) | (with_reducible refine Kd.C_drewN ?_ _) | (with_reducible refine Kd.C_drew ?_))); (case side4 => exact (Kd.R_reads' HO303.out).2.1); rintro e w' ⟨rfl, ⟨nd, rfl⟩⟩; (try first | exact ⟨rfl, _, World.drewN_drewN _ _ _⟩ | exact ⟨rfl, _, Eq.trans (World.drewN_drewN _ _ _) (congrArg (World.drewN _) (Nat.add_assoc _ _ _))⟩)) | (go_at_call 15; (with_reducible refine (normal_Product.calls k _ _ t304 _ _ t304 t320 t321 _ ?side1 ?side2 ?side3 ?side4 A8.out).mono ?_); (case side1 => repeat (first | exact (Kd.R_reads' HO306.out).2.2 | (with_reducible refine Kd.C_alloc ?_ _) | (with_reducible refine Kd.C_drewN ?_ _) | (with_reducible refine Kd.C_drew ?_))); (case side2 => exact (Kd.R_reads' HO306.out).2.1); (case side3 => repeat (first | exact (Kd.R_reads' HO306.out).2.2 | (with_reducible refine Kd.C_alloc ?_ _) | (with_reducible refine Kd.C_drewN ?_ _) | (with_reducible refine Kd.C_drew ?_))); (case side4 => exact (Kd.R_reads' HO306.out).2.1); rintro e w' ⟨rfl, ⟨nd, rfl⟩⟩; (try first | exact ⟨rfl, _, World.drewN_drewN _ _ _⟩ | exact ⟨rfl, _, Eq.trans (World.drewN_drewN _ _ _) (congrArg (World.drewN _) (Nat.add_assoc _ _ _))⟩))); go_upto_region 8 with (first | (go_at_call 9; (with_reducible refine (shapesearchkeep_New.calls _ _ l0 t298 t299 w _ ?side1 ?side2 ?side3 A2.out).mono ?_); (case side1 => repeat (first | (with_reducible first | exact HB.out | apply below_alloc | apply pw_below_drewN | apply below_drew1) | exact HB.out)); (case side2 => exact HR0.out); (case side3 => exact HC0.out); rintro e w10 ⟨g300, rfl, hi, hb, hb2⟩; have n0_ := Aside0.mk (hb); have n1_ := Aside0.mk (hi); clear HB; have HB := n0_; have HI300 := n1_; clear n0_ n1_; (try clear hb); (try clear hb2); (try clear hk); (try clear hi)) | (go_at_call 10; (with_reducible refine (shapesearchkeep_Src_Pair.calls k g300 t298 t299 t301 t304 t307 w _ ?side1 ?side2 A3.out).mono ?_); (case side1 => repeat (first | (with_reducible first | exact HI300.out | apply IsS58.alloc | apply IsS58.drewN | apply IsS58.drew | apply IsS58.set_1) | exact HI300.out)); (case side2 => repeat (first | (with_reducible first | exact HB.out | apply below_alloc | apply pw_below_drewN | apply below_drew1 | refine below_set ?_ (IsS58.ge HI300.out)) | exact HB.out)); rintro e w11 ⟨v302, v305, rfl, ho0, ho1, hi, hb, hk⟩; have n0_ := Aside0.mk (Kd.R_lower ho0 (below_size (by repeat (first | (with_reducible first | exact HB.out | apply below_alloc | apply pw_below_drewN | apply below_drew1 | refine below_set ?_ (IsS58.ge HI300.out)) | exact HB.out)))); have n1_ := Aside0.mk (Kd.R_lower ho1 (below_size (by repeat (first | (with_reducible first | exact HB.out | apply below_alloc | apply pw_below_drewN | apply below_drew1 | refine below_set ?_ (IsS58.ge HI300.out)) | exact HB.out)))); have n2_ := Aside0.mk (hb); have n3_ := Aside0.mk (hi); clear HB; clear HI300; have HO303 := n0_; have HO306 := n1_; have HB := n2_; have HI300 := n3_; clear n0_ n1_ n2_ n3_; (try clear hb); (try clear hb2); (try clear hk); (try clear hi); (try clear ho0); (try clear ho1); obtain ⟨Ao12, co12, eo12⟩ := Kd.R_slice HO303.out; subst eo12) | (go_at_call 14; (with_reducible refine (normal_Centred.calls k _ _ t301 t308 t309 _ ?side1 ?side2 A4.out).mono ?_); (case side1 => repeat (first | exact (Kd.R_reads' HO303.out).2.2 | (with_reducible refine Kd.C_alloc ?_ _) | (with_reducible refine Kd.C_drewN ?_ _) | (with_reducible refine Kd.C_drew ?_))); (case side2 => exact (Kd.R_reads' HO303.out).2.1); rintro e w13 ⟨v310, rfl, ho0, hb⟩; have n0_ := Aside0.mk (Kd.R_elder' (by (with_reducible repeat (first | apply Kd.R_alloc | apply Kd.R_drewN | apply Kd.R_drew)); exact HO303.out) (Kd.R_base ho0) hb); have n1_ := Aside0.mk (Kd.R_elder' (by (with_reducible repeat (first | apply Kd.R_alloc | apply Kd.R_drewN | apply Kd.R_drew)); exact HO306.out) (Kd.R_base ho0) hb); have n2_ := Aside0.mk (Kd.R_lower (Kd.R_new' (Kd.R_new' ho0 (Kd.R_lt (by (with_reducible repeat (first | apply Kd.R_alloc | apply Kd.R_drewN | apply Kd.R_drew)); exact HO303.out))) (Kd.R_lt (by (with_reducible repeat (first | apply Kd.R_alloc | apply Kd.R_drewN | apply Kd.R_drew)); exact HO306.out))) (below_size (by repeat (first | (with_reducible first | exact HB.out | apply below_alloc | apply pw_below_drewN | apply below_drew1 | refine below_set ?_ (IsS58.ge HI300.out)) | exact HB.out)))); have n3_ := Aside0.mk (IsS58.below (by repeat (first | (with_reducible first | exact HI300.out | apply IsS58.alloc | apply IsS58.drewN | apply IsS58.drew | apply IsS58.set_1) | exact HI300.out)) hb); have n4_ := Aside0.mk (below_step (by repeat (first | (with_reducible first | exact HB.out | apply below_alloc | apply pw_below_drewN | apply below_drew1 | refine below_set ?_ (IsS58.ge HI300.out)) | exact HB.out)) hb); clear HO303; clear HO306; clear HI300; clear HB; have HO303 := n0_; have HO306 := n1_; have HO311 := n2_; have HI300 := n3_; have HB := n4_; clear n0_ n1_ n2_ n3_ n4_; (try clear hb); (try clear hb2); (try clear hk); (try clear hi); (try clear ho0); obtain ⟨Ao14, co14, eo14⟩ := Kd.R_slice HO306.out; subst eo14) | (go_at_call 14; (with_reducible refine (normal_Centred.calls k _ _ t304 t312 t313 _ ?side1 ?side2 A5.out).mono ?_); (case side1 => repeat (first | exact (Kd.R_reads' HO306.out).2.2 | (with_reducible refine Kd.C_alloc ?_ _) | (with_reducible refine Kd.C_drewN ?_ _) | (with_reducible refine Kd.C_drew ?_))); (case side2 => exact (Kd.R_reads' HO306.out).2.1); rintro e w15 ⟨v314, rfl, ho0, hb⟩; have n0_ := Aside0.mk (Kd.R_elder' (by (with_reducible repeat (first | apply Kd.R_alloc | apply Kd.R_drewN | apply Kd.R_drew)); exact HO303.out) (Kd.R_base ho0) hb); have n1_ := Aside0.mk (Kd.R_elder' (by (with_reducible repeat (first | apply Kd.R_alloc | apply Kd.R_drewN | apply Kd.R_drew)); exact HO306.out) (Kd.R_base ho0) hb); have n2_ := Aside0.mk (Kd.R_elder' (by (with_reducible repeat (first | apply Kd.R_alloc | apply Kd.R_drewN | apply Kd.R_drew)); exact HO311.out) (Kd.R_base ho0) hb); have n3_ := Aside0.mk (Kd.R_lower (Kd.R_new' (Kd.R_new' (Kd.R_new' ho0 (Kd.R_lt (by (with_reducible repeat (first | apply Kd.R_alloc | apply Kd.R_drewN | apply Kd.R_drew)); exact HO303.out))) (Kd.R_lt (by (with_reducible repeat (first | apply Kd.R_alloc | apply Kd.R_drewN | apply Kd.R_drew)); exact HO306.out))) (Kd.R_lt (by (with_reducible repeat (first | apply Kd.R_alloc | apply Kd.R_drewN | apply Kd.R_drew)); exact HO311.out))) (below_size (by repeat (first | (with_reducible first | exact HB.out | apply below_alloc | apply pw_below_drewN | apply below_drew1 | refine below_set ?_ (IsS58.ge HI300.out)) | exact HB.out)))); have n4_ := Aside0.mk (IsS58.below (by repeat (first | (with_reducible first | exact HI300.out | apply IsS58.alloc | apply IsS58.drewN | apply IsS58.drew | apply IsS58.set_1) | exact HI300.out)) hb); have n5_ := Aside0.mk (below_step (by repeat (first | (with_reducible first | exact HB.out | apply below_alloc | apply pw_below_drewN | apply below_drew1 | refine below_set ?_ (IsS58.ge HI300.out)) | exact HB.out)) hb); clear HO303; clear HO306; clear HO311; clear HI300; clear HB; have HO303 := n0_; have HO306 := n1_; have HO311 := n2_; have HO315 := n3_; have HI300 := n4_; have HB := n5_; clear n0_ n1_ n2_ n3_ n4_ n5_; (try clear hb); (try clear hb2); (try clear hk); (try clear hi); (try clear ho0)) | (go_at_call 15; (with_reducible refine (normal_Product.calls k _ _ t301 _ _ t304 t316 t317 _ ?side1 ?side2 ?side3 ?side4 A6.out).mono ?_); (case side1 => repeat (first | exact (Kd.R_reads' HO303.out).2.2 | (with_reducible refine Kd.C_alloc ?_ _) | (with_reducible refine Kd.C_drewN ?_ _) | (with_reducible refine Kd.C_drew ?_))); (case side2 => exact (Kd.R_reads' HO303.out).2.1); (case side3 => repeat (first | exact (Kd.R_reads' HO306.out).2.2 | (with_reducible refine Kd.C_alloc ?_ _) | (with_reducible refine Kd.C_drewN ?_ _) | (with_reducible refine Kd.C_drew ?_))); (case side4 => exact (Kd.R_reads' HO306.out).2.1); rintro e w' ⟨rfl, ⟨nd, rfl⟩⟩; (try first | exact ⟨rfl, _, World.drewN_drewN _ _ _⟩ | exact ⟨rfl, _, Eq.trans (World.drewN_drewN _ _ _) (congrArg (World.drewN _) (Nat.add_assoc _ _ _))⟩)) | (go_at_call 15; (with_reducible refine (normal_Product.calls k _ _ t301 _ _ t301 t318 t319 _ ?side1 ?side2 ?side3 ?side4 A7.out).mono ?_); (case side1 => repeat (first | exact (Kd.R_reads' HO303.out).2.2 | (with_reducible refine Kd.C_alloc ?_ _) | (with_reducible refine Kd.C_drewN ?_ _) | (with_reducible refine Kd.C_drew ?_))); (case side2 => exact (Kd.R_reads' HO303.out).2.1); (case side3 => repeat (first | exact (Kd.R_reads' HO303.out).2.2 | (with_reducible refine Kd.C_alloc ?_ _) | (with_reducible refine Kd.C_drewN ?_ _) | (with_reducible refine Kd.C_drew ?_))); (case side4 => exact (Kd.R_reads' HO303.out).2.1); rintro e w' ⟨rfl, ⟨nd, rfl⟩⟩; (try first | exact ⟨rfl, _, World.drewN_drewN _ _ _⟩ | exact ⟨rfl, _, Eq.trans (World.drewN_drewN _ _ _) (congrArg (World.drewN _) (Nat.add_assoc _ _ _))⟩)) | (go_at_call 15; (with_reducible refine (normal_Product.calls k _ _ t304 _ _ t304 t320 t321 _ ?side1 ?side2 ?side3 ?side4 A8.out).mono ?_); (case side1 => repeat (first | exact (Kd.R_reads' HO306.out).2.2 | (with_reducible refine Kd.C_alloc ?_ _) | (with_reducible refine Kd.C_drewN ?_ _) | (with_reducible refine Kd.C_drew ?_))); (case side2 => exact (Kd.R_reads' HO306.out).2.1); (case side3 => repeat (first | exact (Kd.R_reads' HO306.out).2.2 | (with_reducible refine Kd.C_alloc ?_ _) | (with_reducible refine Kd.C_drewN ?_ _) | (with_reducible refine Kd.C_drew ?_))); (case side4 => exact (Kd.R_reads' HO306.out).2.1); rintro e w' ⟨rfl, ⟨nd, rfl⟩⟩; (try first | exact ⟨rfl, _, World.drewN_drewN _ _ _⟩ | exact ⟨rfl, _, Eq.trans (World.drewN_drewN _ _ _) (congrArg (World.drewN _) (Nat.add_assoc _ _ _))⟩))))
  (try simp only [Act.put, List.setIfInBounds_toArray, List.set_cons_zero, List.set_cons_succ])
  go_cut [85] (fun v85 wc => ∃ (kq : Nat) (x85_8 : Bool), v85 = .bool x85_8 ∧ Aside0 (shapesearchlaw13_NormalCentres.j0 kq t301 t308 t312 t316 t318 t320 x85_8 = some r) ∧ Aside0 (kq ≤ k) ∧ Aside0 (Kd.R (Kd.int .i64) 3 wc w.heap.size (fun k_ => some k_ ≠ (v310 : Value).ownBlock ∧ some k_ ≠ (v314 : Value).ownBlock) (.slice Ao12 t301.length co12) t301) ∧ Aside0 (Kd.R (Kd.int .i64) 3 wc w.heap.size (fun k_ => some k_ ≠ ((.slice Ao12 t301.length co12) : Value).ownBlock ∧ some k_ ≠ (v314 : Value).ownBlock) v310 t308) ∧ Aside0 (Kd.R (Kd.int .i64) 3 wc w.heap.size (fun k_ => some k_ ≠ ((.slice Ao12 t301.length co12) : Value).ownBlock ∧ some k_ ≠ (v310 : Value).ownBlock) v314 t312) ∧ Aside0 (Below w.heap.size w wc))
  case first =>
    have H := HC9.out
    clear HC9
    by_cases c16 : t309 = 0
    · rw [if_pos c16] at H
      have c16b0 : (t309 == 0) = true := beq_iff_eq.mpr c16
      have c16b1 : (t309 != 0) = false := bne_eq_false_iff_eq.mpr c16
      clear c16
      (first | rw [c16b0] | (simp only [i64_w, i32_w]; rw [c16b0]) | skip)
      by_cases c17 : t313 = 0
      · rw [if_pos c17] at H
        have c17b0 : (t313 == 0) = true := beq_iff_eq.mpr c17
        have c17b1 : (t313 != 0) = false := bne_eq_false_iff_eq.mpr c17
        clear c17
        by_cases c18 : t317 = 0
        · rw [if_pos c18] at H
          have c18b0 : (t317 == 0) = true := beq_iff_eq.mpr c18
          have c18b1 : (t317 != 0) = false := bne_eq_false_iff_eq.mpr c18
          clear c18
          by_cases c19 : t319 = 0
          · rw [if_pos c19] at H
            have c19b0 : (t319 == 0) = true := beq_iff_eq.mpr c19
            have c19b1 : (t319 != 0) = false := bne_eq_false_iff_eq.mpr c19
            clear c19
            by_cases c20 : t321 = 0
            · rw [if_pos c20] at H
              have c20b0 : (t321 == 0) = true := beq_iff_eq.mpr c20
              have c20b1 : (t321 != 0) = false := bne_eq_false_iff_eq.mpr c20
              clear c20
              by_cases c21 : (t308.length : Int) = (t301.length : Int)
              · rw [if_pos c21] at H
                have c21b0 : ((t308.length : Int) == (t301.length : Int)) = true := beq_iff_eq.mpr c21
                have c21b1 : ((t308.length : Int) != (t301.length : Int)) = false := bne_eq_false_iff_eq.mpr c21
                have c21b2 : (t308.length == t301.length) = true := by first | simpa using c21 | (simp at c21 ⊢; omega)
                clear c21
                have H' := Aside0.mk H
                clear H
                obtain ⟨Ao22, co22, eo22⟩ := Kd.R_slice HO311.out
                subst eo22
                obtain ⟨Ao23, co23, eo23⟩ := Kd.R_slice HO315.out
                subst eo23
                go_wp2
                repeat (go_quiet (fail); try go_wp2)
                go_meet
                case rel => exact ⟨_, (((t312.length : Int) != (t301.length : Int))), (by first | rfl | (simp; done) | (simp [*]; done)), H', ⟨by first | omega | exact Nat.le_refl _⟩, ⟨by (with_reducible repeat (first | apply Kd.R_alloc | apply Kd.R_drewN | apply Kd.R_drew)); exact Kd.R_mono HO303.out (fun _ hk => ⟨hk.1.2, hk.2⟩)⟩, ⟨by (with_reducible repeat (first | apply Kd.R_alloc | apply Kd.R_drewN | apply Kd.R_drew)); exact Kd.R_mono HO311.out (fun _ hk => ⟨hk.1.1.2, hk.2⟩)⟩, ⟨by (with_reducible repeat (first | apply Kd.R_alloc | apply Kd.R_drewN | apply Kd.R_drew)); exact Kd.R_mono HO315.out (fun _ hk => ⟨hk.1.1.2, hk.2⟩)⟩, ⟨by repeat (first | (with_reducible first | exact HB.out | apply below_alloc | apply pw_below_drewN | apply below_drew1 | refine below_set ?_ (IsS58.ge HI300.out)) | exact HB.out)⟩⟩
              · rw [if_neg c21] at H
                have c21b0 : ((t308.length : Int) == (t301.length : Int)) = false := beq_eq_false_iff_ne.mpr c21
                have c21b1 : ((t308.length : Int) != (t301.length : Int)) = true := bne_iff_ne.mpr c21
                have c21b2 : (t308.length == t301.length) = false := by first | simpa using c21 | (simp at c21 ⊢; omega)
                have H' := Aside0.mk H
                clear H
                obtain ⟨Ao24, co24, eo24⟩ := Kd.R_slice HO311.out
                subst eo24
                go_wp2
                repeat (go_quiet (fail); try go_wp2)
                go_meet
                case rel => exact ⟨_, (true), (by first | rfl | (simp; done) | (simp [*]; done)), H', ⟨by first | omega | exact Nat.le_refl _⟩, ⟨by (with_reducible repeat (first | apply Kd.R_alloc | apply Kd.R_drewN | apply Kd.R_drew)); exact Kd.R_mono HO303.out (fun _ hk => ⟨hk.1.2, hk.2⟩)⟩, ⟨by (with_reducible repeat (first | apply Kd.R_alloc | apply Kd.R_drewN | apply Kd.R_drew)); exact Kd.R_mono HO311.out (fun _ hk => ⟨hk.1.1.2, hk.2⟩)⟩, ⟨by (with_reducible repeat (first | apply Kd.R_alloc | apply Kd.R_drewN | apply Kd.R_drew)); exact Kd.R_mono HO315.out (fun _ hk => ⟨hk.1.1.2, hk.2⟩)⟩, ⟨by repeat (first | (with_reducible first | exact HB.out | apply below_alloc | apply pw_below_drewN | apply below_drew1 | refine below_set ?_ (IsS58.ge HI300.out)) | exact HB.out)⟩⟩
            · rw [if_neg c20] at H
              have c20b0 : (t321 == 0) = false := beq_eq_false_iff_ne.mpr c20
              have c20b1 : (t321 != 0) = true := bne_iff_ne.mpr c20
              have H' := Aside0.mk H
              clear H
              go_wp2
              repeat (go_quiet (fail); try go_wp2)
              go_meet
              case rel => exact ⟨_, (true), (by first | rfl | (simp; done) | (simp [*]; done)), H', ⟨by first | omega | exact Nat.le_refl _⟩, ⟨by (with_reducible repeat (first | apply Kd.R_alloc | apply Kd.R_drewN | apply Kd.R_drew)); exact Kd.R_mono HO303.out (fun _ hk => ⟨hk.1.2, hk.2⟩)⟩, ⟨by (with_reducible repeat (first | apply Kd.R_alloc | apply Kd.R_drewN | apply Kd.R_drew)); exact Kd.R_mono HO311.out (fun _ hk => ⟨hk.1.1.2, hk.2⟩)⟩, ⟨by (with_reducible repeat (first | apply Kd.R_alloc | apply Kd.R_drewN | apply Kd.R_drew)); exact Kd.R_mono HO315.out (fun _ hk => ⟨hk.1.1.2, hk.2⟩)⟩, ⟨by repeat (first | (with_reducible first | exact HB.out | apply below_alloc | apply pw_below_drewN | apply below_drew1 | refine below_set ?_ (IsS58.ge HI300.out)) | exact HB.out)⟩⟩
          · rw [if_neg c19] at H
            have c19b0 : (t319 == 0) = false := beq_eq_false_iff_ne.mpr c19
            have c19b1 : (t319 != 0) = true := bne_iff_ne.mpr c19
            have H' := Aside0.mk H
            clear H
            go_wp2
            repeat (go_quiet (fail); try go_wp2)
            go_meet
            case rel => exact ⟨_, (true), (by first | rfl | (simp; done) | (simp [*]; done)), H', ⟨by first | omega | exact Nat.le_refl _⟩, ⟨by (with_reducible repeat (first | apply Kd.R_alloc | apply Kd.R_drewN | apply Kd.R_drew)); exact Kd.R_mono HO303.out (fun _ hk => ⟨hk.1.2, hk.2⟩)⟩, ⟨by (with_reducible repeat (first | apply Kd.R_alloc | apply Kd.R_drewN | apply Kd.R_drew)); exact Kd.R_mono HO311.out (fun _ hk => ⟨hk.1.1.2, hk.2⟩)⟩, ⟨by (with_reducible repeat (first | apply Kd.R_alloc | apply Kd.R_drewN | apply Kd.R_drew)); exact Kd.R_mono HO315.out (fun _ hk => ⟨hk.1.1.2, hk.2⟩)⟩, ⟨by repeat (first | (with_reducible first | exact HB.out | apply below_alloc | apply pw_below_drewN | apply below_drew1 | refine below_set ?_ (IsS58.ge HI300.out)) | exact HB.out)⟩⟩
        · rw [if_neg c18] at H
          have c18b0 : (t317 == 0) = false := beq_eq_false_iff_ne.mpr c18
          have c18b1 : (t317 != 0) = true := bne_iff_ne.mpr c18
          have H' := Aside0.mk H
          clear H
          go_wp2
          repeat (go_quiet (fail); try go_wp2)
          go_meet
          case rel => exact ⟨_, (true), (by first | rfl | (simp; done) | (simp [*]; done)), H', ⟨by first | omega | exact Nat.le_refl _⟩, ⟨by (with_reducible repeat (first | apply Kd.R_alloc | apply Kd.R_drewN | apply Kd.R_drew)); exact Kd.R_mono HO303.out (fun _ hk => ⟨hk.1.2, hk.2⟩)⟩, ⟨by (with_reducible repeat (first | apply Kd.R_alloc | apply Kd.R_drewN | apply Kd.R_drew)); exact Kd.R_mono HO311.out (fun _ hk => ⟨hk.1.1.2, hk.2⟩)⟩, ⟨by (with_reducible repeat (first | apply Kd.R_alloc | apply Kd.R_drewN | apply Kd.R_drew)); exact Kd.R_mono HO315.out (fun _ hk => ⟨hk.1.1.2, hk.2⟩)⟩, ⟨by repeat (first | (with_reducible first | exact HB.out | apply below_alloc | apply pw_below_drewN | apply below_drew1 | refine below_set ?_ (IsS58.ge HI300.out)) | exact HB.out)⟩⟩
      · rw [if_neg c17] at H
        have c17b0 : (t313 == 0) = false := beq_eq_false_iff_ne.mpr c17
        have c17b1 : (t313 != 0) = true := bne_iff_ne.mpr c17
        have H' := Aside0.mk H
        clear H
        go_wp2
        repeat (go_quiet (fail); try go_wp2)
        go_meet
        case rel => exact ⟨_, (true), (by first | rfl | (simp; done) | (simp [*]; done)), H', ⟨by first | omega | exact Nat.le_refl _⟩, ⟨by (with_reducible repeat (first | apply Kd.R_alloc | apply Kd.R_drewN | apply Kd.R_drew)); exact Kd.R_mono HO303.out (fun _ hk => ⟨hk.1.2, hk.2⟩)⟩, ⟨by (with_reducible repeat (first | apply Kd.R_alloc | apply Kd.R_drewN | apply Kd.R_drew)); exact Kd.R_mono HO311.out (fun _ hk => ⟨hk.1.1.2, hk.2⟩)⟩, ⟨by (with_reducible repeat (first | apply Kd.R_alloc | apply Kd.R_drewN | apply Kd.R_drew)); exact Kd.R_mono HO315.out (fun _ hk => ⟨hk.1.1.2, hk.2⟩)⟩, ⟨by repeat (first | (with_reducible first | exact HB.out | apply below_alloc | apply pw_below_drewN | apply below_drew1 | refine below_set ?_ (IsS58.ge HI300.out)) | exact HB.out)⟩⟩
    · rw [if_neg c16] at H
      have c16b0 : (t309 == 0) = false := beq_eq_false_iff_ne.mpr c16
      have c16b1 : (t309 != 0) = true := bne_iff_ne.mpr c16
      (first | rw [c16b0] | (simp only [i64_w, i32_w]; rw [c16b0]) | skip)
      have H' := Aside0.mk H
      clear H
      go_wp2
      repeat (go_quiet (fail); try go_wp2)
      go_meet
      case rel => exact ⟨_, (true), (by first | rfl | (simp; done) | (simp [*]; done)), H', ⟨by first | omega | exact Nat.le_refl _⟩, ⟨by (with_reducible repeat (first | apply Kd.R_alloc | apply Kd.R_drewN | apply Kd.R_drew)); exact Kd.R_mono HO303.out (fun _ hk => ⟨hk.1.2, hk.2⟩)⟩, ⟨by (with_reducible repeat (first | apply Kd.R_alloc | apply Kd.R_drewN | apply Kd.R_drew)); exact Kd.R_mono HO311.out (fun _ hk => ⟨hk.1.1.2, hk.2⟩)⟩, ⟨by (with_reducible repeat (first | apply Kd.R_alloc | apply Kd.R_drewN | apply Kd.R_drew)); exact Kd.R_mono HO315.out (fun _ hk => ⟨hk.1.1.2, hk.2⟩)⟩, ⟨by repeat (first | (with_reducible first | exact HB.out | apply below_alloc | apply pw_below_drewN | apply below_drew1 | refine below_set ?_ (IsS58.ge HI300.out)) | exact HB.out)⟩⟩
  case rest =>
    clear HC9
    try clear c1
    try clear c2
    try clear p2
    try clear c4
    try clear c16
    try clear c16b0
    try clear c16b1
    try clear c17
    try clear c17b0
    try clear c17b1
    try clear c18
    try clear c18b0
    try clear c18b1
    try clear c19
    try clear c19b0
    try clear c19b1
    try clear c20
    try clear c20b0
    try clear c20b1
    try clear c21
    try clear c21b0
    try clear c21b1
    try clear c21b2
    obtain ⟨kq, x85_8, rfl, HA, HJ8, HO_4, HO_6, HO_8, HB⟩ := hcut
    cases kq with
    | zero => exact absurd HA.out (by simp [shapesearchlaw13_NormalCentres.j0])
    | succ kj8 =>
      have H := HA.out
      clear HA
      simp only [shapesearchlaw13_NormalCentres.j0] at H
      by_cases c25 : x85_8 = true
      · subst c25
        have H1 : (some false) = some r := by rw [if_pos rfl] at H; exact H
        clear H
        have H := H1
        clear H1
        obtain rfl := Option.some.inj H
        go_wp2
        repeat (go_quiet (fail); try go_wp2)
        go_ret
        exact ⟨by first | rfl | (simp [errW_none, errW_some] <;> rfl) | (simp [*, errW_none, errW_some] <;> rfl), by repeat (first | (with_reducible first | exact HB.out | apply below_alloc | apply pw_below_drewN | apply below_drew1) | exact HB.out)⟩
      · replace c25 := Bool.eq_false_iff.mpr c25
        subst c25
        have H1 : (shapesearchlaw13_NormalCentres.l0 kj8 t301 t308 t312 t316 t318 t320 0 0 (t308.length : Int) 0) = some r := by rw [if_neg (show ¬ (false = true) by decide)] at H; exact H
        clear H
        have H := H1
        clear H1
        have H' := Aside0.mk H
        clear H
        obtain ⟨Ao26, co26, eo26⟩ := Kd.R_slice HO_6.out
        subst eo26
        go_wp2
        repeat (go_quiet (fail); try go_wp2)
        go_loopg [16, 17, 88] kj8 (fun kq v16 v17 v88 w' => ∃ (x16_2 : Int) (x17_2 : Int) (x88_2 : Int), v16 = .int .i64 x16_2 ∧ v17 = .int .i64 x17_2 ∧ v88 = .int .i64 x88_2 ∧ Aside0 (shapesearchlaw13_NormalCentres.l0 kq t301 t308 t312 t316 t318 t320 x16_2 x17_2 (t308.length : Int) x88_2 = some r) ∧ Aside0 (kq ≤ kj8) ∧ Aside0 (Kd.R (Kd.int .i64) 3 w' w.heap.size (fun k_ => some k_ ≠ ((.slice Ao26 t308.length co26) : Value).ownBlock ∧ some k_ ≠ (v314 : Value).ownBlock) (.slice Ao12 t301.length co12) t301) ∧ Aside0 (Kd.R (Kd.int .i64) 3 w' w.heap.size (fun k_ => some k_ ≠ ((.slice Ao12 t301.length co12) : Value).ownBlock ∧ some k_ ≠ (v314 : Value).ownBlock) (.slice Ao26 t308.length co26) t308) ∧ Aside0 (Kd.R (Kd.int .i64) 3 w' w.heap.size (fun k_ => some k_ ≠ ((.slice Ao12 t301.length co12) : Value).ownBlock ∧ some k_ ≠ ((.slice Ao26 t308.length co26) : Value).ownBlock) v314 t312) ∧ Aside0 (Below w.heap.size w w'))
        case atStart => exact ⟨(0), (0), (0), (by first | rfl | (simp; done) | (simp [*]; done)), (by first | rfl | (simp; done) | (simp [*]; done)), (by first | rfl | (simp; done) | (simp [*]; done)), H', ⟨Nat.le_refl _⟩, ⟨by (with_reducible repeat (first | apply Kd.R_alloc | apply Kd.R_drewN | apply Kd.R_drew)); exact HO_4.out⟩, ⟨by (with_reducible repeat (first | apply Kd.R_alloc | apply Kd.R_drewN | apply Kd.R_drew)); exact HO_6.out⟩, ⟨by (with_reducible repeat (first | apply Kd.R_alloc | apply Kd.R_drewN | apply Kd.R_drew)); exact HO_8.out⟩, ⟨by repeat (first | (with_reducible first | exact HB.out | apply below_alloc | apply pw_below_drewN | apply below_drew1) | exact HB.out)⟩⟩
        case round =>
          clear H'
          try clear c1
          try clear c2
          try clear p2
          try clear c4
          try clear c16
          try clear c16b0
          try clear c16b1
          try clear c17
          try clear c17b0
          try clear c17b1
          try clear c18
          try clear c18b0
          try clear c18b1
          try clear c19
          try clear c19b0
          try clear c19b1
          try clear c20
          try clear c20b0
          try clear c20b1
          try clear c21
          try clear c21b0
          try clear c21b1
          try clear c21b2
          try clear c25
          try clear p2
          obtain ⟨x16_2, x17_2, x88_2, rfl, rfl, rfl, HA, HK2, HO_4, HO_6, HO_8, HB⟩ := hrel
          cases gk with
          | zero => exact absurd HA.out (by simp [shapesearchlaw13_NormalCentres.l0])
          | succ k2 =>
            have H := HA.out
            clear HA
            simp only [shapesearchlaw13_NormalCentres.l0] at H
            by_cases c27 : x88_2 < (t308.length : Int)
            · rw [if_pos c27] at H
              have c27b0 : decide (x88_2 < (t308.length : Int)) = true := decide_eq_true c27
              clear c27
              by_cases c28 : 0 ≤ x88_2
              · rw [if_pos c28] at H
                have c28b0 : decide (0 ≤ x88_2) = true := decide_eq_true c28
                clear c28
                by_cases c29 : x88_2 < (t308.length : Int)
                · rw [if_pos c29] at H
                  have c29b0 : decide (x88_2 < (t308.length : Int)) = true := decide_eq_true c29
                  clear c29
                  by_cases c30 : x88_2 < (t312.length : Int)
                  · rw [if_pos c30] at H
                    have c30b0 : decide (x88_2 < (t312.length : Int)) = true := decide_eq_true c30
                    clear c30
                    have H' := Aside0.mk H
                    clear H
                    have p322 : 0 ≤ (x88_2 : Int) := of_decide_eq_true (by first | (with_reducible assumption) | assumption)
                    have q322 : x88_2 < (t308.length : Int) := of_decide_eq_true (by first | (with_reducible assumption) | assumption)
                    obtain ⟨ad322, e322, hx322_0⟩ := Kd.at_int (Kd.R_reads' HO_6.out).2.2 x88_2 p322 q322
                    cases e322
                    replace p322 := eq_true p322
                    replace q322 := eq_true q322
                    have p323 : 0 ≤ (x88_2 : Int) := of_decide_eq_true (by first | (with_reducible assumption) | assumption)
                    have q323 : x88_2 < (t308.length : Int) := of_decide_eq_true (by first | (with_reducible assumption) | assumption)
                    obtain ⟨ad323, e323, hx323_0⟩ := Kd.at_int (Kd.R_reads' HO_6.out).2.2 x88_2 p323 q323
                    obtain rfl : ad322 = ad323 := (by injection e323)
                    replace p323 := eq_true p323
                    replace q323 := eq_true q323
                    obtain ⟨Ao31, co31, eo31⟩ := Kd.R_slice HO_8.out
                    subst eo31
                    have p324 : 0 ≤ (x88_2 : Int) := of_decide_eq_true (by first | (with_reducible assumption) | assumption)
                    have q324 : x88_2 < (t312.length : Int) := of_decide_eq_true (by first | (with_reducible assumption) | assumption)
                    obtain ⟨ad324, e324, hx324_0⟩ := Kd.at_int (Kd.R_reads' HO_8.out).2.2 x88_2 p324 q324
                    cases e324
                    replace p324 := eq_true p324
                    replace q324 := eq_true q324
                    go_wp2
                    repeat (go_quiet (fail); try go_wp2)
                    go_roundg k2
                    case measure => have := HJ8.out; have := HK2.out; omega
                    case rel => exact ⟨(wrap64 (x16_2 + (rd t308 x88_2))), (wrap64 (x17_2 + (wrap64 ((rd t308 x88_2) * (rd t312 x88_2))))), (wrap64 (x88_2 + 1)), (by first | rfl | (simp; done) | (simp [*]; done)), (by first | rfl | (simp; done) | (simp [*]; done)), (by first | rfl | (simp; done) | (simp [*]; done)), H', ⟨by have := HJ8.out; have := HK2.out; omega⟩, ⟨by (with_reducible repeat (first | apply Kd.R_alloc | apply Kd.R_drewN | apply Kd.R_drew)); exact HO_4.out⟩, ⟨by (with_reducible repeat (first | apply Kd.R_alloc | apply Kd.R_drewN | apply Kd.R_drew)); exact HO_6.out⟩, ⟨by (with_reducible repeat (first | apply Kd.R_alloc | apply Kd.R_drewN | apply Kd.R_drew)); exact HO_8.out⟩, ⟨by repeat (first | (with_reducible first | exact HB.out | apply below_alloc | apply pw_below_drewN | apply below_drew1) | exact HB.out)⟩⟩
                  · rw [if_neg c30] at H
                    exact absurd H (by simp)
                · rw [if_neg c29] at H
                  exact absurd H (by simp)
              · rw [if_neg c28] at H
                exact absurd H (by simp)
            · rw [if_neg c27] at H
              have c27b0 : decide (x88_2 < (t308.length : Int)) = false := decide_eq_false c27
              clear c27
              by_cases c32 : x16_2 = 0
              · rw [if_pos c32] at H
                have c32b0 : (x16_2 == 0) = true := beq_iff_eq.mpr c32
                have c32b1 : (x16_2 != 0) = false := bne_eq_false_iff_eq.mpr c32
                clear c32
                by_cases c33 : x17_2 = (wrap64 ((t301.length : Int) * t316))
                · rw [if_pos c33] at H
                  have c33b0 : (x17_2 == (wrap64 ((t301.length : Int) * t316))) = true := beq_iff_eq.mpr c33
                  have c33b1 : (x17_2 != (wrap64 ((t301.length : Int) * t316))) = false := bne_eq_false_iff_eq.mpr c33
                  clear c33
                  by_cases c34 : (wrap64 (t316 * t316)) ≤ (wrap64 (t318 * t320))
                  · rw [if_pos c34] at H
                    have c34b0 : decide ((wrap64 (t316 * t316)) ≤ (wrap64 (t318 * t320))) = true := decide_eq_true c34
                    clear c34
                    replace H := Option.bind_eq_some_iff.mp H
                    obtain ⟨t325, A350, H⟩ := H
                    replace H : (some t325) = some r := H
                    have A35 := Aside0.mk A350
                    clear A350
                    obtain rfl := Option.some.inj H
                    go_wp2_with (first | (go_at_call 13; (with_reducible refine (shapesearchlaw13_awake.calls k2  t325 _ A35.out).mono ?_); rintro e w36 ⟨rfl, hb⟩; have n0_ := Aside0.mk (Kd.R_below (by (with_reducible repeat (first | apply Kd.R_alloc | apply Kd.R_drewN | apply Kd.R_drew)); exact HO_4.out) hb); have n1_ := Aside0.mk (Kd.R_below (by (with_reducible repeat (first | apply Kd.R_alloc | apply Kd.R_drewN | apply Kd.R_drew)); exact HO_6.out) hb); have n2_ := Aside0.mk (Kd.R_below (by (with_reducible repeat (first | apply Kd.R_alloc | apply Kd.R_drewN | apply Kd.R_drew)); exact HO_8.out) hb); have n3_ := Aside0.mk (below_step (by repeat (first | (with_reducible first | exact HB.out | apply below_alloc | apply pw_below_drewN | apply below_drew1) | exact HB.out)) hb); clear HO_4; clear HO_6; clear HO_8; clear HB; have HO_4 := n0_; have HO_6 := n1_; have HO_8 := n2_; have HB := n3_; clear n0_ n1_ n2_ n3_; (try clear hb); (try clear hb2); (try clear hk); (try clear hi)))
                    repeat (go_quiet (first | (go_at_call 13; (with_reducible refine (shapesearchlaw13_awake.calls k2  t325 _ A35.out).mono ?_); rintro e w36 ⟨rfl, hb⟩; have n0_ := Aside0.mk (Kd.R_below (by (with_reducible repeat (first | apply Kd.R_alloc | apply Kd.R_drewN | apply Kd.R_drew)); exact HO_4.out) hb); have n1_ := Aside0.mk (Kd.R_below (by (with_reducible repeat (first | apply Kd.R_alloc | apply Kd.R_drewN | apply Kd.R_drew)); exact HO_6.out) hb); have n2_ := Aside0.mk (Kd.R_below (by (with_reducible repeat (first | apply Kd.R_alloc | apply Kd.R_drewN | apply Kd.R_drew)); exact HO_8.out) hb); have n3_ := Aside0.mk (below_step (by repeat (first | (with_reducible first | exact HB.out | apply below_alloc | apply pw_below_drewN | apply below_drew1) | exact HB.out)) hb); clear HO_4; clear HO_6; clear HO_8; clear HB; have HO_4 := n0_; have HO_6 := n1_; have HO_8 := n2_; have HB := n3_; clear n0_ n1_ n2_ n3_; (try clear hb); (try clear hb2); (try clear hk); (try clear hi))); try go_wp2_with (first | (go_at_call 13; (with_reducible refine (shapesearchlaw13_awake.calls k2  t325 _ A35.out).mono ?_); rintro e w36 ⟨rfl, hb⟩; have n0_ := Aside0.mk (Kd.R_below (by (with_reducible repeat (first | apply Kd.R_alloc | apply Kd.R_drewN | apply Kd.R_drew)); exact HO_4.out) hb); have n1_ := Aside0.mk (Kd.R_below (by (with_reducible repeat (first | apply Kd.R_alloc | apply Kd.R_drewN | apply Kd.R_drew)); exact HO_6.out) hb); have n2_ := Aside0.mk (Kd.R_below (by (with_reducible repeat (first | apply Kd.R_alloc | apply Kd.R_drewN | apply Kd.R_drew)); exact HO_8.out) hb); have n3_ := Aside0.mk (below_step (by repeat (first | (with_reducible first | exact HB.out | apply below_alloc | apply pw_below_drewN | apply below_drew1) | exact HB.out)) hb); clear HO_4; clear HO_6; clear HO_8; clear HB; have HO_4 := n0_; have HO_6 := n1_; have HO_8 := n2_; have HB := n3_; clear n0_ n1_ n2_ n3_; (try clear hb); (try clear hb2); (try clear hk); (try clear hi))))
                    go_ret
                    exact ⟨by first | rfl | (simp [errW_none, errW_some] <;> rfl) | (simp [*, errW_none, errW_some] <;> rfl), by repeat (first | (with_reducible first | exact HB.out | apply below_alloc | apply pw_below_drewN | apply below_drew1) | exact HB.out)⟩
                  · rw [if_neg c34] at H
                    have c34b0 : decide ((wrap64 (t316 * t316)) ≤ (wrap64 (t318 * t320))) = false := decide_eq_false c34
                    clear c34
                    obtain rfl := Option.some.inj H
                    go_wp2
                    repeat (go_quiet (fail); try go_wp2)
                    go_ret
                    exact ⟨by first | rfl | (simp [errW_none, errW_some] <;> rfl) | (simp [*, errW_none, errW_some] <;> rfl), by repeat (first | (with_reducible first | exact HB.out | apply below_alloc | apply pw_below_drewN | apply below_drew1) | exact HB.out)⟩
                · rw [if_neg c33] at H
                  have c33b0 : (x17_2 == (wrap64 ((t301.length : Int) * t316))) = false := beq_eq_false_iff_ne.mpr c33
                  have c33b1 : (x17_2 != (wrap64 ((t301.length : Int) * t316))) = true := bne_iff_ne.mpr c33
                  obtain rfl := Option.some.inj H
                  go_wp2
                  repeat (go_quiet (fail); try go_wp2)
                  go_ret
                  exact ⟨by first | rfl | (simp [errW_none, errW_some] <;> rfl) | (simp [*, errW_none, errW_some] <;> rfl), by repeat (first | (with_reducible first | exact HB.out | apply below_alloc | apply pw_below_drewN | apply below_drew1) | exact HB.out)⟩
              · rw [if_neg c32] at H
                have c32b0 : (x16_2 == 0) = false := beq_eq_false_iff_ne.mpr c32
                have c32b1 : (x16_2 != 0) = true := bne_iff_ne.mpr c32
                obtain rfl := Option.some.inj H
                go_wp2
                repeat (go_quiet (fail); try go_wp2)
                go_ret
                exact ⟨by first | rfl | (simp [errW_none, errW_some] <;> rfl) | (simp [*, errW_none, errW_some] <;> rfl), by repeat (first | (with_reducible first | exact HB.out | apply below_alloc | apply pw_below_drewN | apply below_drew1) | exact HB.out)⟩

/-- THE ONE PURE STATEMENT of shapesearchlaw13_NormalCentres: yours. -/
def shapesearchlaw13_NormalCentres.Pure : Prop := ∀ (l0 : List Int), l0.length ≤ maxLen → l0.length * 8 ≤ 140737488351232 → (∀ x ∈ l0, (Lit.int .i64 x).wf = true) → ∃ k, shapesearchlaw13_NormalCentres.f k l0 = some true
theorem shapesearchlaw13_NormalCentres.walk (P : shapesearchlaw13_NormalCentres.Pure) (a0 : Option Addr) (len0 cap0 : Nat) (z0 : List Int) (w : World) (w0 : (a0 = none ∧ len0 = 0 ∧ cap0 = 0 ∧ z0 = []) ∨ ∃ x, a0 = some x ∧ len0 ≤ cap0 ∧ cap0 ≤ maxLen ∧ z0.length = cap0 ∧ (∀ i, i < z0.length → w.cell? (x.add i) = some (.int .i64 (z0.getD i 0))) ∧ ∀ n ∈ z0, (Lit.int .i64 n).wf = true) (y0 : len0 * 8 ≤ 140737488351232) :
    Calls Try.prog 4 #[.slice a0 len0 cap0] w fun e w' => e = .returned (.bool true) ∧ Below w.heap.size w w' := by
  obtain ⟨l0, rfl, hr0, hm0, hw0, hc0⟩ := ReadsInt.ofRowC w0
  obtain ⟨k, h⟩ := P l0 hm0 y0 hw0
  refine (shapesearchlaw13_NormalCentres.calls k _ _ l0 true w (Kd.C_of_reads (d := (0 : Int)) (h1 := fun _ => rfl) hr0) hc0 h).mono ?_
  rintro e w' ⟨rfl, hd⟩
  exact ⟨rfl, hd⟩

end Go.Proofs.Ytmckmjpfcgmalaa.PNormalCentres
