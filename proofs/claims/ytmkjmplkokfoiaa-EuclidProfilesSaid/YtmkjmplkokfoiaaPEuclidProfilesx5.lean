/- This file proves, function by function, what the Go functions that one law uses compute; most of it was printed by a program (wip/tools of this session, over the kit's print). -/
import Derived.Test.YtmkjmplkokfoiaaPEuclidProfilesx0
import Derived.Test.YtmkjmplkokfoiaaPEuclidProfilesx2
import Derived.Test.YtmkjmplkokfoiaaPEuclidProfilesx4
namespace Go.Proofs.Ytmkjmplkokfoiaa.PEuclidProfiles
open Go.RowKit Go.Proofs.YtmkjmplkokfoiaaW.PrintWords Go.Proofs.YtmkjmplkokfoiaaW.PrintLast Go.Proofs.YtmkjmplkokfoiaaW.PrintMore
attribute [local go_sem] max2_int min2_int max_two min_two max_three min_three max_four min_four   -- for this text's walks alone
set_option linter.unusedVariables false
set_option linter.unusedSimpArgs false

/-! ### shapesearchkeep_Src_List: function 20 -/
mutual
def shapesearchkeep_Src_List.j0 : Nat → Int → Int → Int → Int → List Int → Int → Option (List Int × Int)
  | 0, _, _, _, _, _, _ => none
  | k + 1, x1, x5, x6, x7, x1000, x1001 => shapesearchkeep_Src_List.l0 k x1 x5 x6 x7 ([] : List Int) 0 x1000 x1001
def shapesearchkeep_Src_List.l0 : Nat → Int → Int → Int → Int → List Int → Int → List Int → Int → Option (List Int × Int)
  | 0, _, _, _, _, _, _, _, _ => none
  | k + 1, x1, x5, x6, x7, x8, x9, x1000, x1001 => if x9 < x1 then (if x5 = 0 then (shapesearchkeep_Src_List.j2 k x1 x5 x6 x7 x8 x9 x5 (x5 == 0) x1000 x1001) else (shapesearchkeep_Src_List.j2 k x1 x5 x6 x7 x8 x9 x5 (x5 == 1) x1000 x1001)) else (some (x8, x1001))
def shapesearchkeep_Src_List.j2 : Nat → Int → Int → Int → Int → List Int → Int → Int → Bool → List Int → Int → Option (List Int × Int)
  | 0, _, _, _, _, _, _, _, _, _, _ => none
  | k + 1, x1, x5, x6, x7, x8, x9, x25, x32, x1000, x1001 => if x32 = true then ((shapesearchkeep_Src_Range.f x1000 x1001 (wrap64 (-x6)) x6).bind fun bt182 => (if x8.length < 17592186044416 then (shapesearchkeep_Src_List.l0 k x1 x5 x6 x7 (x8 ++ [bt182.1]) (wrap64 (x9 + 1)) x1000 bt182.2) else (none))) else (if x25 = 2 then (shapesearchkeep_Src_List.j3 k x1 x5 x6 x7 x8 x9 x25 (x25 == 2) x1000 x1001) else (shapesearchkeep_Src_List.j3 k x1 x5 x6 x7 x8 x9 x25 (x25 == 3) x1000 x1001))
def shapesearchkeep_Src_List.j3 : Nat → Int → Int → Int → Int → List Int → Int → Int → Bool → List Int → Int → Option (List Int × Int)
  | 0, _, _, _, _, _, _, _, _, _, _ => none
  | k + 1, x1, x5, x6, x7, x8, x9, x25, x43, x1000, x1001 => if x43 = true then ((shapesearchkeep_Src_Range.f x1000 x1001 (wrap64 (-x6)) x6).bind fun bt187 => ((shapesearchkeep_clip.f (wrap64 (x7 + bt187.1))).bind fun t189 => (if x8.length < 17592186044416 then (shapesearchkeep_Src_List.l0 k x1 x5 x6 t189 (x8 ++ [t189]) (wrap64 (x9 + 1)) x1000 bt187.2) else (none)))) else (if x25 = 4 then ((shapesearchkeep_Src_N.f x1000 x1001 4).bind fun bt193 => (if bt193.1 = 0 then ((shapesearchkeep_Src_Range.f x1000 bt193.2 (wrap64 (-x6)) x6).bind fun bt195 => (if x8.length < 17592186044416 then (shapesearchkeep_Src_List.l0 k x1 x5 x6 bt195.1 (x8 ++ [bt195.1]) (wrap64 (x9 + 1)) x1000 bt195.2) else (none))) else (if x8.length < 17592186044416 then (shapesearchkeep_Src_List.l0 k x1 x5 x6 x7 (x8 ++ [x7]) (wrap64 (x9 + 1)) x1000 bt193.2) else (none)))) else ((shapesearchkeep_Src_Pick.f x1000 x1001 (([(-1000), 1000, 1000, 0] : List Int))).bind fun bt206 => (if x8.length < 17592186044416 then (shapesearchkeep_Src_List.l0 k x1 x5 x6 x7 (x8 ++ [bt206.1]) (wrap64 (x9 + 1)) x1000 bt206.2) else (none))))
end
def shapesearchkeep_Src_List.f (k : Nat) (s0_0 : List Int) (s0_1 : Int) (a1 : Int) : Option (List Int × Int) := (shapesearchkeep_Src_N.f s0_0 s0_1 6).bind fun bt171 => ((shapesearchkeep_Src_Pick.f s0_0 bt171.2 (([1, 3, 10, 100, 1000] : List Int))).bind fun bt176 => ((shapesearchkeep_Src_N.f s0_0 bt176.2 3).bind fun bt178 => (if bt178.1 = 0 then ((shapesearchkeep_Src_Range.f s0_0 bt178.2 (-1000) 1000).bind fun bt180 => (shapesearchkeep_Src_List.j0 k a1 bt171.1 bt176.1 bt180.1 s0_0 bt180.2)) else (shapesearchkeep_Src_List.j0 k a1 bt171.1 bt176.1 0 s0_0 bt178.2))))
theorem shapesearchkeep_Src_List.mono_l : ∀ k, (∀ y0 y1 y2 y3 y4 y5, LeO (shapesearchkeep_Src_List.j0 k y0 y1 y2 y3 y4 y5) (shapesearchkeep_Src_List.j0 (k + 1) y0 y1 y2 y3 y4 y5)) ∧ (∀ y0 y1 y2 y3 y4 y5 y6 y7, LeO (shapesearchkeep_Src_List.l0 k y0 y1 y2 y3 y4 y5 y6 y7) (shapesearchkeep_Src_List.l0 (k + 1) y0 y1 y2 y3 y4 y5 y6 y7)) ∧ (∀ y0 y1 y2 y3 y4 y5 y6 y7 y8 y9, LeO (shapesearchkeep_Src_List.j2 k y0 y1 y2 y3 y4 y5 y6 y7 y8 y9) (shapesearchkeep_Src_List.j2 (k + 1) y0 y1 y2 y3 y4 y5 y6 y7 y8 y9)) ∧ (∀ y0 y1 y2 y3 y4 y5 y6 y7 y8 y9, LeO (shapesearchkeep_Src_List.j3 k y0 y1 y2 y3 y4 y5 y6 y7 y8 y9) (shapesearchkeep_Src_List.j3 (k + 1) y0 y1 y2 y3 y4 y5 y6 y7 y8 y9))
  | 0 => ⟨fun _ _ _ _ _ _ r h => by simp [shapesearchkeep_Src_List.j0] at h, fun _ _ _ _ _ _ _ _ r h => by simp [shapesearchkeep_Src_List.l0] at h, fun _ _ _ _ _ _ _ _ _ _ r h => by simp [shapesearchkeep_Src_List.j2] at h, fun _ _ _ _ _ _ _ _ _ _ r h => by simp [shapesearchkeep_Src_List.j3] at h⟩
  | k + 1 => by
    obtain ⟨ih0, ih1, ih2, ih3⟩ := shapesearchkeep_Src_List.mono_l k
    refine ⟨?_, ?_, ?_, ?_⟩
    · intro y0 y1 y2 y3 y4 y5
      unfold shapesearchkeep_Src_List.j0
      repeat' first
      | (with_reducible exact ih0 _ _ _ _ _ _)
      | (with_reducible exact ih1 _ _ _ _ _ _ _ _)
      | (with_reducible exact ih2 _ _ _ _ _ _ _ _ _ _)
      | (with_reducible exact ih3 _ _ _ _ _ _ _ _ _ _)
      | (with_reducible exact LeO.refl _)
      | (with_reducible exact LeO.none _)
      | (with_reducible refine LeO.ite ?_ ?_)
      | (with_reducible refine LeO.bind ?_ (fun _ => ?_))
      | exact ih0 _ _ _ _ _ _
      | exact ih1 _ _ _ _ _ _ _ _
      | exact ih2 _ _ _ _ _ _ _ _ _ _
      | exact ih3 _ _ _ _ _ _ _ _ _ _
      | exact LeO.none _
      | refine LeO.ite ?_ ?_
      | refine LeO.bind ?_ (fun _ => ?_)
    · intro y0 y1 y2 y3 y4 y5 y6 y7
      unfold shapesearchkeep_Src_List.l0
      repeat' first
      | (with_reducible exact ih0 _ _ _ _ _ _)
      | (with_reducible exact ih1 _ _ _ _ _ _ _ _)
      | (with_reducible exact ih2 _ _ _ _ _ _ _ _ _ _)
      | (with_reducible exact ih3 _ _ _ _ _ _ _ _ _ _)
      | (with_reducible exact LeO.refl _)
      | (with_reducible exact LeO.none _)
      | (with_reducible refine LeO.ite ?_ ?_)
      | (with_reducible refine LeO.bind ?_ (fun _ => ?_))
      | exact ih0 _ _ _ _ _ _
      | exact ih1 _ _ _ _ _ _ _ _
      | exact ih2 _ _ _ _ _ _ _ _ _ _
      | exact ih3 _ _ _ _ _ _ _ _ _ _
      | exact LeO.none _
      | refine LeO.ite ?_ ?_
      | refine LeO.bind ?_ (fun _ => ?_)
    · intro y0 y1 y2 y3 y4 y5 y6 y7 y8 y9
      unfold shapesearchkeep_Src_List.j2
      repeat' first
      | (with_reducible exact ih0 _ _ _ _ _ _)
      | (with_reducible exact ih1 _ _ _ _ _ _ _ _)
      | (with_reducible exact ih2 _ _ _ _ _ _ _ _ _ _)
      | (with_reducible exact ih3 _ _ _ _ _ _ _ _ _ _)
      | (with_reducible exact LeO.refl _)
      | (with_reducible exact LeO.none _)
      | (with_reducible refine LeO.ite ?_ ?_)
      | (with_reducible refine LeO.bind ?_ (fun _ => ?_))
      | exact ih0 _ _ _ _ _ _
      | exact ih1 _ _ _ _ _ _ _ _
      | exact ih2 _ _ _ _ _ _ _ _ _ _
      | exact ih3 _ _ _ _ _ _ _ _ _ _
      | exact LeO.none _
      | refine LeO.ite ?_ ?_
      | refine LeO.bind ?_ (fun _ => ?_)
    · intro y0 y1 y2 y3 y4 y5 y6 y7 y8 y9
      unfold shapesearchkeep_Src_List.j3
      repeat' first
      | (with_reducible exact ih0 _ _ _ _ _ _)
      | (with_reducible exact ih1 _ _ _ _ _ _ _ _)
      | (with_reducible exact ih2 _ _ _ _ _ _ _ _ _ _)
      | (with_reducible exact ih3 _ _ _ _ _ _ _ _ _ _)
      | (with_reducible exact LeO.refl _)
      | (with_reducible exact LeO.none _)
      | (with_reducible refine LeO.ite ?_ ?_)
      | (with_reducible refine LeO.bind ?_ (fun _ => ?_))
      | exact ih0 _ _ _ _ _ _
      | exact ih1 _ _ _ _ _ _ _ _
      | exact ih2 _ _ _ _ _ _ _ _ _ _
      | exact ih3 _ _ _ _ _ _ _ _ _ _
      | exact LeO.none _
      | refine LeO.ite ?_ ?_
      | refine LeO.bind ?_ (fun _ => ?_)
theorem shapesearchkeep_Src_List.mono : ∀ a0 a1 a2 k, LeO (shapesearchkeep_Src_List.f k a0 a1 a2) (shapesearchkeep_Src_List.f (k + 1) a0 a1 a2) := by
  intro a0 a1 a2 k
  obtain ⟨ih0, ih1, ih2, ih3⟩ := shapesearchkeep_Src_List.mono_l k
  unfold shapesearchkeep_Src_List.f
  repeat' first
      | (with_reducible exact ih0 _ _ _ _ _ _)
      | (with_reducible exact ih1 _ _ _ _ _ _ _ _)
      | (with_reducible exact ih2 _ _ _ _ _ _ _ _ _ _)
      | (with_reducible exact ih3 _ _ _ _ _ _ _ _ _ _)
      | (with_reducible exact LeO.refl _)
      | (with_reducible exact LeO.none _)
      | (with_reducible refine LeO.ite ?_ ?_)
      | (with_reducible refine LeO.bind ?_ (fun _ => ?_))
      | exact ih0 _ _ _ _ _ _
      | exact ih1 _ _ _ _ _ _ _ _
      | exact ih2 _ _ _ _ _ _ _ _ _ _
      | exact ih3 _ _ _ _ _ _ _ _ _ _
      | exact LeO.none _
      | refine LeO.ite ?_ ?_
      | refine LeO.bind ?_ (fun _ => ?_)
set_option maxHeartbeats 8000000 in
set_option maxRecDepth 100000 in
theorem shapesearchkeep_Src_List.calls (k : Nat) (g : Nat) (s0_0 : List Int) (s0_1 : Int) (a1 : Int) (r1 : List Int) (r2 : Int) (w0 w : World) (hI : IsS56 w0 w g s0_0 s0_1) (hB : Below w0.heap.size w0 w) (h : shapesearchkeep_Src_List.f k s0_0 s0_1 a1 = some (r1, r2)) :
    Calls Try.prog 20 #[.pointer (some ⟨g, 0, none⟩), .int .i64 a1] w fun e w' => ∃ v0_ : Value, e = .returned (v0_) ∧ Kd.R (Kd.int .i64) 3 w' w.heap.size (fun _ => True) v0_ r1 ∧ IsS56 w0 w' g s0_0 r2 ∧ Below w0.heap.size w0 w' ∧ KeepBut w w' g none := by
  have HI0 := Aside0.mk hI
  have HK := Aside0.mk (KeepBut.refl w g none)
  have HL := Aside0.mk hB.size
  clear hI
  have HW0 := Aside0.mk hB.size
  have HB := Aside0.mk hB
  clear hB
  have H : ((shapesearchkeep_Src_N.f s0_0 s0_1 6).bind fun bt171 => ((shapesearchkeep_Src_Pick.f s0_0 bt171.2 (([1, 3, 10, 100, 1000] : List Int))).bind fun bt176 => ((shapesearchkeep_Src_N.f s0_0 bt176.2 3).bind fun bt178 => (if bt178.1 = 0 then ((shapesearchkeep_Src_Range.f s0_0 bt178.2 (-1000) 1000).bind fun bt180 => (shapesearchkeep_Src_List.j0 k a1 bt171.1 bt176.1 bt180.1 s0_0 bt180.2)) else (shapesearchkeep_Src_List.j0 k a1 bt171.1 bt176.1 0 s0_0 bt178.2))))) = some (r1, r2) := h
  clear h
  replace H := Option.bind_eq_some_iff.mp H
  obtain ⟨⟨t171, t172⟩, A30, H⟩ := H
  replace H : ((shapesearchkeep_Src_Pick.f s0_0 t172 (([1, 3, 10, 100, 1000] : List Int))).bind fun bt176 => ((shapesearchkeep_Src_N.f s0_0 bt176.2 3).bind fun bt178 => (if bt178.1 = 0 then ((shapesearchkeep_Src_Range.f s0_0 bt178.2 (-1000) 1000).bind fun bt180 => (shapesearchkeep_Src_List.j0 k a1 t171 bt176.1 bt180.1 s0_0 bt180.2)) else (shapesearchkeep_Src_List.j0 k a1 t171 bt176.1 0 s0_0 bt178.2)))) = some (r1, r2) := H
  have A3 := Aside0.mk A30
  clear A30
  obtain ⟨y173, hy173⟩ : ∃ y_ : List Int, y_ = (([1, 3, 10, 100, 1000] : List Int)) := ⟨_, rfl⟩
  replace H : ((shapesearchkeep_Src_Pick.f s0_0 t172 y173).bind fun bt176 => ((shapesearchkeep_Src_N.f s0_0 bt176.2 3).bind fun bt178 => (if bt178.1 = 0 then ((shapesearchkeep_Src_Range.f s0_0 bt178.2 (-1000) 1000).bind fun bt180 => (shapesearchkeep_Src_List.j0 k a1 t171 bt176.1 bt180.1 s0_0 bt180.2)) else (shapesearchkeep_Src_List.j0 k a1 t171 bt176.1 0 s0_0 bt178.2)))) = some (r1, r2) := by first | (rw [hy173]; with_reducible exact H) | (have H2_ := (Option.bind_some _ _).symm.trans H; rw [hy173]; with_reducible exact H2_) | (have H2_ := (Option.bind_some _ _).symm.trans H; with_reducible exact H2_) | with_reducible exact H | (rw [hy173]; exact H) | exact H
  have Ny173 := Aside0.mk hy173
  clear hy173
  replace H := Option.bind_eq_some_iff.mp H
  obtain ⟨⟨t176, t177⟩, A40, H⟩ := H
  replace H : ((shapesearchkeep_Src_N.f s0_0 t177 3).bind fun bt178 => (if bt178.1 = 0 then ((shapesearchkeep_Src_Range.f s0_0 bt178.2 (-1000) 1000).bind fun bt180 => (shapesearchkeep_Src_List.j0 k a1 t171 t176 bt180.1 s0_0 bt180.2)) else (shapesearchkeep_Src_List.j0 k a1 t171 t176 0 s0_0 bt178.2))) = some (r1, r2) := H
  have A4 := Aside0.mk A40
  clear A40
  replace H := Option.bind_eq_some_iff.mp H
  obtain ⟨⟨t178, t179⟩, A50, H⟩ := H
  replace H : (if t178 = 0 then ((shapesearchkeep_Src_Range.f s0_0 t179 (-1000) 1000).bind fun bt180 => (shapesearchkeep_Src_List.j0 k a1 t171 t176 bt180.1 s0_0 bt180.2)) else (shapesearchkeep_Src_List.j0 k a1 t171 t176 0 s0_0 t179)) = some (r1, r2) := H
  have A5 := Aside0.mk A50
  clear A50
  have HC6 := Aside0.mk H
  clear H
  go_enter Try.func20, Try.ntmps20
  go_upto_if 17 with (first | ((with_reducible refine gate_callee (f := 23) rfl ?_); refine goesL_ (some 11) rfl rfl Try.func23 (by kernel_rfl) rfl #[.pointer (some ⟨g, 0, none⟩), .int .i64 6] rfl (by (try simp only [List.map_toArray, List.map_cons, List.map_nil]); first | done | rfl | (simp only [List.length_drop, List.length_take]; rfl)) ?_; (with_reducible refine (shapesearchkeep_Src_N.calls g s0_0 s0_1 6 t171 t172 w0 _ ?side1 ?side2 A3.out).mono ?_); (case side1 => repeat (first | (with_reducible first | exact HI0.out | apply IsS56.alloc | apply IsS56.drewN | apply IsS56.drew | apply IsS56.set_1) | exact HI0.out)); (case side2 => repeat (first | (with_reducible first | exact HB.out | apply below_alloc | apply pw_below_drewN | apply below_drew1 | refine below_set ?_ (IsS56.ge HI0.out)) | exact HB.out)); rintro e w7 ⟨rfl, hi, hb, hk⟩; refine ⟨_, rfl, ?_⟩; have n0_ := Aside0.mk (KeepBut.trans (by repeat (first | (with_reducible first | exact HK.out | apply KeepBut.set_ | apply keep_drewN | apply keep_drew | apply keep_alloc) | exact HK.out)) hk (.inl rfl)); have n1_ := Aside0.mk (hb); have n2_ := Aside0.mk (hi); clear HK; clear HB; clear HI0; have HK := n0_; have HB := n1_; have HI0 := n2_; clear n0_ n1_ n2_; (try clear hb); (try clear hb2); (try clear hk); (try clear hi)) | ((with_reducible refine gate_dst (N := 13) rfl ?_); refine Kd.R_lit (Kd.int .i64) _ 3 ?hg (N := 13) ?hd (xs := ([1, 3, 10, 100, 1000] : List Int)) (inner := [.int .i64 1, .int .i64 3, .int .i64 10, .int .i64 100, .int .i64 1000]) (ok := fun _ => True) (okp := fun _ => True) ?hr ?hp (fun _ hk => hk) trivial (Below.refl _ _) (Nat.le_refl _) (by simp) ?_; (case hd => rfl); (case hg => rfl); (case hr => first | (go_simp; done) | (go_simp; rfl)); (case hp => exact (Reps.one (show Kd.M (Kd.int .i64) _ _ _ 1 [.int .i64 1] from rfl) (Reps.one (show Kd.M (Kd.int .i64) _ _ _ 3 [.int .i64 3] from rfl) (Reps.one (show Kd.M (Kd.int .i64) _ _ _ 10 [.int .i64 10] from rfl) (Reps.one (show Kd.M (Kd.int .i64) _ _ _ 100 [.int .i64 100] from rfl) (Reps.one (show Kd.M (Kd.int .i64) _ _ _ 1000 [.int .i64 1000] from rfl) (Reps.none _ _))))))); intro v174 w8 ho9 hb hg_ hnew_; clear hg_ hnew_; (first | rw [← Ny173.out] at ho9 | (simp only [Int.reduceToNat] at ho9; rw [← Ny173.out] at ho9)); have n0_ := Aside0.mk (Kd.R_lower ho9 (keep_size (w := w) (g := g) (row := none) (by repeat (first | (with_reducible first | exact HK.out | apply KeepBut.set_ | apply keep_drewN | apply keep_drew | apply keep_alloc) | exact HK.out)))); have n1_ := Aside0.mk (IsS56.below (by repeat (first | (with_reducible first | exact HI0.out | apply IsS56.alloc | apply IsS56.drewN | apply IsS56.drew | apply IsS56.set_1) | exact HI0.out)) hb); have n2_ := Aside0.mk (KeepBut.trans (by repeat (first | (with_reducible first | exact HK.out | apply KeepBut.set_ | apply keep_drewN | apply keep_drew | apply keep_alloc) | exact HK.out)) (KeepBut.of_below hb g none) (.inl rfl)); have n3_ := Aside0.mk (below_step (by repeat (first | (with_reducible first | exact HB.out | apply below_alloc | apply pw_below_drewN | apply below_drew1 | refine below_set ?_ (IsS56.ge HI0.out)) | exact HB.out)) hb); clear HI0; clear HK; clear HB; have HO175 := n0_; have HI0 := n1_; have HK := n2_; have HB := n3_; clear n0_ n1_ n2_ n3_; clear hb ho9; obtain ⟨Ao10, co10, eo10⟩ := Kd.R_slice HO175.out; subst eo10) | ((with_reducible refine gate_callee (f := 37) rfl ?_); refine goesL_ (some 14) rfl rfl Try.func37 (by kernel_rfl) rfl #[.pointer (some ⟨g, 0, none⟩), .slice Ao10 y173.length co10] rfl (by (try simp only [List.map_toArray, List.map_cons, List.map_nil]); first | done | rfl | (simp only [List.length_drop, List.length_take]; rfl)) ?_; (with_reducible refine (shapesearchkeep_Src_Pick.calls g s0_0 t172 _ _ y173 t176 t177 w0 _ ?side1 ?side2 ?side3 ?side4 ?side5 A4.out).mono ?_); (case side1 => repeat (first | (with_reducible first | exact HI0.out | apply IsS56.alloc | apply IsS56.drewN | apply IsS56.drew | apply IsS56.set_1) | exact HI0.out)); (case side2 => repeat (first | (with_reducible first | exact HB.out | apply below_alloc | apply pw_below_drewN | apply below_drew1 | refine below_set ?_ (IsS56.ge HI0.out)) | exact HB.out)); (case side3 => repeat (first | exact (Kd.R_reads' HO175.out).2.2 | (with_reducible refine Kd.C_alloc ?_ _) | (with_reducible refine Kd.C_drewN ?_ _) | (with_reducible refine Kd.C_drew ?_))); (case side4 => exact (Kd.R_reads' HO175.out).2.1); (case side5 => exact far_slice (IsS56.own_ne HI0.out HO175.out (by decide))); rintro e w11 ⟨rfl, hi, hb, hk⟩; refine ⟨_, rfl, ?_⟩; have n0_ := Aside0.mk (Kd.R_mono (Kd.R_keep (IsS56.apart (show IsS56 w0 _ g s0_0 t172 from by repeat (first | (with_reducible first | exact HI0.out | apply IsS56.alloc | apply IsS56.drewN | apply IsS56.drew | apply IsS56.set_1) | exact HI0.out)) (by (with_reducible repeat (first | apply Kd.R_alloc | apply Kd.R_drewN | apply Kd.R_drew)); exact HO175.out) (by decide)) hk (fun _ h => h.2)) (fun _ h => h.1)); have n1_ := Aside0.mk (KeepBut.trans (by repeat (first | (with_reducible first | exact HK.out | apply KeepBut.set_ | apply keep_drewN | apply keep_drew | apply keep_alloc) | exact HK.out)) hk (.inl rfl)); have n2_ := Aside0.mk (hb); have n3_ := Aside0.mk (hi); clear HO175; clear HK; clear HB; clear HI0; have HO175 := n0_; have HK := n1_; have HB := n2_; have HI0 := n3_; clear n0_ n1_ n2_ n3_; (try clear hb); (try clear hb2); (try clear hk); (try clear hi)) | ((with_reducible refine gate_callee (f := 23) rfl ?_); refine goesL_ (some 16) rfl rfl Try.func23 (by kernel_rfl) rfl #[.pointer (some ⟨g, 0, none⟩), .int .i64 3] rfl (by (try simp only [List.map_toArray, List.map_cons, List.map_nil]); first | done | rfl | (simp only [List.length_drop, List.length_take]; rfl)) ?_; (with_reducible refine (shapesearchkeep_Src_N.calls g s0_0 t177 3 t178 t179 w0 _ ?side1 ?side2 A5.out).mono ?_); (case side1 => repeat (first | (with_reducible first | exact HI0.out | apply IsS56.alloc | apply IsS56.drewN | apply IsS56.drew | apply IsS56.set_1) | exact HI0.out)); (case side2 => repeat (first | (with_reducible first | exact HB.out | apply below_alloc | apply pw_below_drewN | apply below_drew1 | refine below_set ?_ (IsS56.ge HI0.out)) | exact HB.out)); rintro e w12 ⟨rfl, hi, hb, hk⟩; refine ⟨_, rfl, ?_⟩; have n0_ := Aside0.mk (Kd.R_mono (Kd.R_keep (IsS56.apart (show IsS56 w0 _ g s0_0 t177 from by repeat (first | (with_reducible first | exact HI0.out | apply IsS56.alloc | apply IsS56.drewN | apply IsS56.drew | apply IsS56.set_1) | exact HI0.out)) (by (with_reducible repeat (first | apply Kd.R_alloc | apply Kd.R_drewN | apply Kd.R_drew)); exact HO175.out) (by decide)) hk (fun _ h => h.2)) (fun _ h => h.1)); have n1_ := Aside0.mk (KeepBut.trans (by repeat (first | (with_reducible first | exact HK.out | apply KeepBut.set_ | apply keep_drewN | apply keep_drew | apply keep_alloc) | exact HK.out)) hk (.inl rfl)); have n2_ := Aside0.mk (hb); have n3_ := Aside0.mk (hi); clear HO175; clear HK; clear HB; clear HI0; have HO175 := n0_; have HK := n1_; have HB := n2_; have HI0 := n3_; clear n0_ n1_ n2_ n3_; (try clear hb); (try clear hb2); (try clear hk); (try clear hi)))
  (try simp only [Act.put, List.setIfInBounds_toArray, List.set_cons_zero, List.set_cons_succ])
  go_cut [7] (fun v7 wc => ∃ (kq : Nat) (x7_5 : Int) (x1001_5 : Int), v7 = .int .i64 x7_5 ∧ Aside0 (shapesearchkeep_Src_List.j0 kq a1 t171 t176 x7_5 s0_0 x1001_5 = some (r1, r2)) ∧ Aside0 (kq ≤ k) ∧ Aside0 (IsS56 w0 wc g s0_0 x1001_5) ∧ Aside0 (KeepBut w wc g none) ∧ Aside0 (Below w0.heap.size w0 wc))
  case first =>
    have H := HC6.out
    clear HC6
    by_cases c13 : t178 = 0
    · rw [if_pos c13] at H
      have c13b0 : (t178 == 0) = true := beq_iff_eq.mpr c13
      have c13b1 : (t178 != 0) = false := bne_eq_false_iff_eq.mpr c13
      clear c13
      (first | rw [c13b0] | (simp only [i64_w, i32_w]; rw [c13b0]) | skip)
      replace H := Option.bind_eq_some_iff.mp H
      obtain ⟨⟨t180, t181⟩, A140, H⟩ := H
      replace H : (shapesearchkeep_Src_List.j0 k a1 t171 t176 t180 s0_0 t181) = some (r1, r2) := H
      have A14 := Aside0.mk A140
      clear A140
      have H' := Aside0.mk H
      clear H
      go_wp2_with (first | ((with_reducible refine gate_callee (f := 21) rfl ?_); refine goesL_ (some 19) rfl rfl Try.func21 (by kernel_rfl) rfl #[.pointer (some ⟨g, 0, none⟩), .int .i64 (-1000), .int .i64 1000] rfl (by (try simp only [List.map_toArray, List.map_cons, List.map_nil]); first | done | rfl | (simp only [List.length_drop, List.length_take]; rfl)) ?_; (with_reducible refine (shapesearchkeep_Src_Range.calls g s0_0 t179 (-1000) 1000 t180 t181 w0 _ ?side1 ?side2 A14.out).mono ?_); (case side1 => repeat (first | (with_reducible first | exact HI0.out | apply IsS56.alloc | apply IsS56.drewN | apply IsS56.drew | apply IsS56.set_1) | exact HI0.out)); (case side2 => repeat (first | (with_reducible first | exact HB.out | apply below_alloc | apply pw_below_drewN | apply below_drew1 | refine below_set ?_ (IsS56.ge HI0.out)) | exact HB.out)); rintro e w15 ⟨rfl, hi, hb, hk⟩; refine ⟨_, rfl, ?_⟩; have n0_ := Aside0.mk (Kd.R_mono (Kd.R_keep (IsS56.apart (show IsS56 w0 _ g s0_0 t179 from by repeat (first | (with_reducible first | exact HI0.out | apply IsS56.alloc | apply IsS56.drewN | apply IsS56.drew | apply IsS56.set_1) | exact HI0.out)) (by (with_reducible repeat (first | apply Kd.R_alloc | apply Kd.R_drewN | apply Kd.R_drew)); exact HO175.out) (by decide)) hk (fun _ h => h.2)) (fun _ h => h.1)); have n1_ := Aside0.mk (KeepBut.trans (by repeat (first | (with_reducible first | exact HK.out | apply KeepBut.set_ | apply keep_drewN | apply keep_drew | apply keep_alloc) | exact HK.out)) hk (.inl rfl)); have n2_ := Aside0.mk (hb); have n3_ := Aside0.mk (hi); clear HO175; clear HK; clear HB; clear HI0; have HO175 := n0_; have HK := n1_; have HB := n2_; have HI0 := n3_; clear n0_ n1_ n2_ n3_; (try clear hb); (try clear hb2); (try clear hk); (try clear hi)))
      go_meet
      case rel => exact ⟨_, (t180), (t181), (by first | rfl | (simp; done) | (simp [*]; done)), H', ⟨by first | omega | exact Nat.le_refl _⟩, ⟨by repeat (first | (with_reducible first | exact HI0.out | apply IsS56.alloc | apply IsS56.drewN | apply IsS56.drew | apply IsS56.set_1) | exact HI0.out)⟩, ⟨by repeat (first | (with_reducible first | exact HK.out | apply KeepBut.set_ | apply keep_drewN | apply keep_drew | apply keep_alloc) | exact HK.out)⟩, ⟨by repeat (first | (with_reducible first | exact HB.out | apply below_alloc | apply pw_below_drewN | apply below_drew1 | refine below_set ?_ (IsS56.ge HI0.out)) | exact HB.out)⟩⟩
    · rw [if_neg c13] at H
      have c13b0 : (t178 == 0) = false := beq_eq_false_iff_ne.mpr c13
      have c13b1 : (t178 != 0) = true := bne_iff_ne.mpr c13
      (first | rw [c13b0] | (simp only [i64_w, i32_w]; rw [c13b0]) | skip)
      have H' := Aside0.mk H
      clear H
      go_wp2
      go_meet
      case rel => exact ⟨_, (0), (t179), (by first | rfl | (simp; done) | (simp [*]; done)), H', ⟨by first | omega | exact Nat.le_refl _⟩, ⟨by repeat (first | (with_reducible first | exact HI0.out | apply IsS56.alloc | apply IsS56.drewN | apply IsS56.drew | apply IsS56.set_1) | exact HI0.out)⟩, ⟨by repeat (first | (with_reducible first | exact HK.out | apply KeepBut.set_ | apply keep_drewN | apply keep_drew | apply keep_alloc) | exact HK.out)⟩, ⟨by repeat (first | (with_reducible first | exact HB.out | apply below_alloc | apply pw_below_drewN | apply below_drew1 | refine below_set ?_ (IsS56.ge HI0.out)) | exact HB.out)⟩⟩
  case rest =>
    clear HC6
    try clear c1
    try clear c2
    try clear p2
    try clear c3
    try clear c13
    try clear c13b0
    try clear c13b1
    obtain ⟨kq, x7_5, x1001_5, rfl, HA, HJ5, HI0, HK, HB⟩ := hcut
    cases kq with
    | zero => exact absurd HA.out (by simp [shapesearchkeep_Src_List.j0])
    | succ kj5 =>
      have H := HA.out
      clear HA
      simp only [shapesearchkeep_Src_List.j0] at H
      have H' := Aside0.mk H
      clear H
      go_wp2
      go_loopg [7, 8, 9] kj5 (fun kq v7 v8 v9 w' => ∃ (x7_2 : Int) (x8_2 : List Int) (x9_2 : Int) (x1001_2 : Int), v7 = .int .i64 x7_2 ∧ v9 = .int .i64 x9_2 ∧ Aside0 (shapesearchkeep_Src_List.l0 kq a1 t171 t176 x7_2 x8_2 x9_2 s0_0 x1001_2 = some (r1, r2)) ∧ Aside0 (kq ≤ kj5) ∧ Aside0 (Kd.R (Kd.int .i64) 3 w' w.heap.size (fun _ => True) v8 x8_2) ∧ Aside0 (IsS56 w0 w' g s0_0 x1001_2) ∧ Aside0 (KeepBut w w' g none) ∧ Aside0 (Below w0.heap.size w0 w'))
      case atStart => exact ⟨(x7_5), (([] : List Int)), (0), (x1001_5), (by first | rfl | (simp; done) | (simp [*]; done)), (by first | rfl | (simp; done) | (simp [*]; done)), H', ⟨Nat.le_refl _⟩, ⟨by first | exact Kd.R_nil _ _ _ _ _ | exact Kd.N_nil _ _ _ _ _ | exact Kd.V_nil _ _ _ _ _ | exact Kd.Q_nil _ _ _ _ _ | exact Kd.S_nil _ _ _ _ _⟩, ⟨by repeat (first | (with_reducible first | exact HI0.out | apply IsS56.alloc | apply IsS56.drewN | apply IsS56.drew | apply IsS56.set_1) | exact HI0.out)⟩, ⟨by repeat (first | (with_reducible first | exact HK.out | apply KeepBut.set_ | apply keep_drewN | apply keep_drew | apply keep_alloc) | exact HK.out)⟩, ⟨by repeat (first | (with_reducible first | exact HB.out | apply below_alloc | apply pw_below_drewN | apply below_drew1 | refine below_set ?_ (IsS56.ge HI0.out)) | exact HB.out)⟩⟩
      case round =>
        clear H'
        try clear c1
        try clear c2
        try clear p2
        try clear c3
        try clear c13
        try clear c13b0
        try clear c13b1
        try clear p2
        obtain ⟨x7_2, x8_2, x9_2, x1001_2, rfl, rfl, HA, HK2, HO_8, HI0, HK, HB⟩ := hrel
        cases gk with
        | zero => exact absurd HA.out (by simp [shapesearchkeep_Src_List.l0])
        | succ k2 =>
          have H := HA.out
          clear HA
          simp only [shapesearchkeep_Src_List.l0] at H
          by_cases c16 : x9_2 < a1
          · rw [if_pos c16] at H
            have c16b0 : decide (x9_2 < a1) = true := decide_eq_true c16
            clear c16
            have HC17 := Aside0.mk H
            clear H
            go_upto_if 32 with (fail)
            go_cut [32] (fun v32 wc => ∃ (kq : Nat) (x32_16 : Bool), v32 = .bool x32_16 ∧ Aside0 (shapesearchkeep_Src_List.j2 kq a1 t171 t176 x7_2 x8_2 x9_2 t171 x32_16 s0_0 x1001_2 = some (r1, r2)) ∧ Aside0 (kq ≤ k2) ∧ Aside0 (Kd.R (Kd.int .i64) 3 wc w.heap.size (fun _ => True) u8 x8_2) ∧ Aside0 (IsS56 w0 wc g s0_0 x1001_2) ∧ Aside0 (KeepBut w wc g none) ∧ Aside0 (Below w0.heap.size w0 wc))
            case first =>
              have H := HC17.out
              clear HC17
              by_cases c18 : t171 = 0
              · rw [if_pos c18] at H
                have c18b0 : (t171 == 0) = true := beq_iff_eq.mpr c18
                have c18b1 : (t171 != 0) = false := bne_eq_false_iff_eq.mpr c18
                clear c18
                (first | rw [c18b0] | (simp only [i64_w, i32_w]; rw [c18b0]) | skip)
                have H' := Aside0.mk H
                clear H
                go_wp2
                go_meet
                case rel => exact ⟨_, ((t171 == 0)), (by first | rfl | (simp; done) | (simp [*]; done)), H', ⟨by have := HJ5.out; have := HK2.out; first | omega | exact Nat.le_refl _⟩, ⟨by (with_reducible repeat (first | apply Kd.R_alloc | apply Kd.R_drewN | apply Kd.R_drew)); exact HO_8.out⟩, ⟨by repeat (first | (with_reducible first | exact HI0.out | apply IsS56.alloc | apply IsS56.drewN | apply IsS56.drew | apply IsS56.set_1) | exact HI0.out)⟩, ⟨by repeat (first | (with_reducible first | exact HK.out | apply KeepBut.set_ | apply keep_drewN | apply keep_drew | apply keep_alloc) | exact HK.out)⟩, ⟨by repeat (first | (with_reducible first | exact HB.out | apply below_alloc | apply pw_below_drewN | apply below_drew1 | refine below_set ?_ (IsS56.ge HI0.out)) | exact HB.out)⟩⟩
              · rw [if_neg c18] at H
                have c18b0 : (t171 == 0) = false := beq_eq_false_iff_ne.mpr c18
                have c18b1 : (t171 != 0) = true := bne_iff_ne.mpr c18
                (first | rw [c18b0] | (simp only [i64_w, i32_w]; rw [c18b0]) | skip)
                have H' := Aside0.mk H
                clear H
                go_wp2
                go_meet
                case rel => exact ⟨_, ((t171 == 1)), (by first | rfl | (simp; done) | (simp [*]; done)), H', ⟨by have := HJ5.out; have := HK2.out; first | omega | exact Nat.le_refl _⟩, ⟨by (with_reducible repeat (first | apply Kd.R_alloc | apply Kd.R_drewN | apply Kd.R_drew)); exact HO_8.out⟩, ⟨by repeat (first | (with_reducible first | exact HI0.out | apply IsS56.alloc | apply IsS56.drewN | apply IsS56.drew | apply IsS56.set_1) | exact HI0.out)⟩, ⟨by repeat (first | (with_reducible first | exact HK.out | apply KeepBut.set_ | apply keep_drewN | apply keep_drew | apply keep_alloc) | exact HK.out)⟩, ⟨by repeat (first | (with_reducible first | exact HB.out | apply below_alloc | apply pw_below_drewN | apply below_drew1 | refine below_set ?_ (IsS56.ge HI0.out)) | exact HB.out)⟩⟩
            case rest =>
              clear HC17
              try clear c1
              try clear c2
              try clear p2
              try clear c3
              try clear c13
              try clear c13b0
              try clear c13b1
              try clear c16
              try clear c16b0
              try clear c18
              try clear c18b0
              try clear c18b1
              try clear p2
              obtain ⟨kq, x32_16, rfl, HA, HJ16, HO_8, HI0, HK, HB⟩ := hcut
              cases kq with
              | zero => exact absurd HA.out (by simp [shapesearchkeep_Src_List.j2])
              | succ kj16 =>
                have H := HA.out
                clear HA
                simp only [shapesearchkeep_Src_List.j2] at H
                by_cases c19 : x32_16 = true
                · subst c19
                  have H1 : ((shapesearchkeep_Src_Range.f s0_0 x1001_2 (wrap64 (-t176)) t176).bind fun bt182 => (if x8_2.length < 17592186044416 then (shapesearchkeep_Src_List.l0 kj16 a1 t171 t176 x7_2 (x8_2 ++ [bt182.1]) (wrap64 (x9_2 + 1)) s0_0 bt182.2) else (none))) = some (r1, r2) := by rw [if_pos rfl] at H; exact H
                  clear H
                  have H := H1
                  clear H1
                  replace H := Option.bind_eq_some_iff.mp H
                  obtain ⟨⟨t182, t183⟩, A200, H⟩ := H
                  replace H : (if x8_2.length < 17592186044416 then (shapesearchkeep_Src_List.l0 kj16 a1 t171 t176 x7_2 (x8_2 ++ [t182]) (wrap64 (x9_2 + 1)) s0_0 t183) else (none)) = some (r1, r2) := H
                  have A20 := Aside0.mk A200
                  clear A200
                  by_cases c21 : x8_2.length < 17592186044416
                  · rw [if_pos c21] at H
                    have LMc21 := Aside0.mk c21
                    clear c21
                    obtain ⟨y184, hy184⟩ : ∃ y_ : List Int, y_ = (x8_2 ++ [t182]) := ⟨_, rfl⟩
                    replace H : (shapesearchkeep_Src_List.l0 kj16 a1 t171 t176 x7_2 y184 (wrap64 (x9_2 + 1)) s0_0 t183) = some (r1, r2) := by first | (rw [hy184]; with_reducible exact H) | (have H2_ := (Option.bind_some _ _).symm.trans H; rw [hy184]; with_reducible exact H2_) | (have H2_ := (Option.bind_some _ _).symm.trans H; with_reducible exact H2_) | with_reducible exact H | (rw [hy184]; exact H) | exact H
                    have Ny184 := Aside0.mk hy184
                    clear hy184
                    have H' := Aside0.mk H
                    clear H
                    go_wp2_with (first | ((with_reducible refine gate_callee (f := 21) rfl ?_); refine goesL_ (some 40) rfl rfl Try.func21 (by kernel_rfl) rfl #[.pointer (some ⟨g, 0, none⟩), .int .i64 (wrap64 (-t176)), .int .i64 t176] rfl (by (try simp only [List.map_toArray, List.map_cons, List.map_nil]); first | done | rfl | (simp only [List.length_drop, List.length_take]; rfl)) ?_; (with_reducible refine (shapesearchkeep_Src_Range.calls g s0_0 x1001_2 (wrap64 (-t176)) t176 t182 t183 w0 _ ?side1 ?side2 A20.out).mono ?_); (case side1 => repeat (first | (with_reducible first | exact HI0.out | apply IsS56.alloc | apply IsS56.drewN | apply IsS56.drew | apply IsS56.set_1) | exact HI0.out)); (case side2 => repeat (first | (with_reducible first | exact HB.out | apply below_alloc | apply pw_below_drewN | apply below_drew1 | refine below_set ?_ (IsS56.ge HI0.out)) | exact HB.out)); rintro e w22 ⟨rfl, hi, hb, hk⟩; refine ⟨_, rfl, ?_⟩; have n0_ := Aside0.mk (Kd.R_mono (Kd.R_keep (IsS56.apart (show IsS56 w0 _ g s0_0 x1001_2 from by repeat (first | (with_reducible first | exact HI0.out | apply IsS56.alloc | apply IsS56.drewN | apply IsS56.drew | apply IsS56.set_1) | exact HI0.out)) (by (with_reducible repeat (first | apply Kd.R_alloc | apply Kd.R_drewN | apply Kd.R_drew)); exact HO_8.out) (by decide)) hk (fun _ h => h.2)) (fun _ h => h.1)); have n1_ := Aside0.mk (KeepBut.trans (by repeat (first | (with_reducible first | exact HK.out | apply KeepBut.set_ | apply keep_drewN | apply keep_drew | apply keep_alloc) | exact HK.out)) hk (.inl rfl)); have n2_ := Aside0.mk (hb); have n3_ := Aside0.mk (hi); clear HO_8; clear HK; clear HB; clear HI0; have HO_8 := n0_; have HK := n1_; have HB := n2_; have HI0 := n3_; clear n0_ n1_ n2_ n3_; (try clear hb); (try clear hb2); (try clear hk); (try clear hi)) | ((with_reducible refine gate_builtin (b := .append) (xs := #[.tmp 35, .tmp 41]) rfl ?_); at_builtin; refine Kd.R_append (Kd.int .i64) w.heap.size rfl (.tmp 35) (.tmp 41) 22 3 (.int .i64 0) 8 rfl Try.underlying22 info3 rfl (by decide) (by omega) u8 x8_2 t182 [.int .i64 t182] (fun _ => True) (fun _ => False) rfl rfl ?aP (fun _ hk => hk.elim) ?aF ?aO (Below.refl _ _) ?aS ?aL ?_; (case aP => exact rfl); (case aF => exact (fun _ _ => trivial)); (case aO => exact (by (with_reducible repeat (first | apply Kd.R_alloc | apply Kd.R_drewN | apply Kd.R_drew)); exact HO_8.out)); (case aS => exact (keep_size (w := w) (g := g) (row := none) (by repeat (first | (with_reducible first | exact HK.out | apply KeepBut.set_ | apply keep_drewN | apply keep_drew | apply keep_alloc) | exact HK.out)))); (case aL => have := LMc21.out; omega); intro v185 w23 ho hb hg hat; rw [← Ny184.out] at ho; have n0_ := Aside0.mk (IsS56.grown (by repeat (first | (with_reducible first | exact HI0.out | apply IsS56.alloc | apply IsS56.drewN | apply IsS56.drew | apply IsS56.set_1) | exact HI0.out)) hg (IsS56.own_ne HI0.out HO_8.out (by decide))); have n1_ := Aside0.mk (below_weaken (by repeat (first | (with_reducible first | exact HB.out | apply below_alloc | apply pw_below_drewN | apply below_drew1 | refine below_set ?_ (IsS56.ge HI0.out)) | exact HB.out)) HL.out hb); have n2_ := Aside0.mk (KeepBut.trans (by repeat (first | (with_reducible first | exact HK.out | apply KeepBut.set_ | apply keep_drewN | apply keep_drew | apply keep_alloc) | exact HK.out)) (KeepBut.of_grown hg g) (Kd.R_base2 HO_8.out)); have n3_ := Aside0.mk (ho); clear HI0; clear HB; clear HK; clear HO_8; have HI0 := n0_; have HB := n1_; have HK := n2_; have HO186 := n3_; clear n0_ n1_ n2_ n3_; clear ho hb hg hat))
                    go_roundg kj16
                    case measure => have := HJ5.out; have := HK2.out; have := HJ16.out; omega
                    case rel => exact ⟨(x7_2), (y184), (wrap64 (x9_2 + 1)), (t183), (by first | rfl | (simp; done) | (simp [*]; done)), (by first | rfl | (simp; done) | (simp [*]; done)), H', ⟨by have := HJ5.out; have := HK2.out; have := HJ16.out; omega⟩, ⟨by (with_reducible repeat (first | apply Kd.R_alloc | apply Kd.R_drewN | apply Kd.R_drew)); exact HO186.out⟩, ⟨by repeat (first | (with_reducible first | exact HI0.out | apply IsS56.alloc | apply IsS56.drewN | apply IsS56.drew | apply IsS56.set_1) | exact HI0.out)⟩, ⟨by repeat (first | (with_reducible first | exact HK.out | apply KeepBut.set_ | apply keep_drewN | apply keep_drew | apply keep_alloc) | exact HK.out)⟩, ⟨by repeat (first | (with_reducible first | exact HB.out | apply below_alloc | apply pw_below_drewN | apply below_drew1 | refine below_set ?_ (IsS56.ge HI0.out)) | exact HB.out)⟩⟩
                  · rw [if_neg c21] at H
                    exact absurd H (by simp)
                · replace c19 := Bool.eq_false_iff.mpr c19
                  subst c19
                  have H1 : (if t171 = 2 then (shapesearchkeep_Src_List.j3 kj16 a1 t171 t176 x7_2 x8_2 x9_2 t171 (t171 == 2) s0_0 x1001_2) else (shapesearchkeep_Src_List.j3 kj16 a1 t171 t176 x7_2 x8_2 x9_2 t171 (t171 == 3) s0_0 x1001_2)) = some (r1, r2) := by rw [if_neg (show ¬ (false = true) by decide)] at H; exact H
                  clear H
                  have H := H1
                  clear H1
                  have HC24 := Aside0.mk H
                  clear H
                  go_upto_if 43 with (fail)
                  go_cut [43] (fun v43 wc => ∃ (kq : Nat) (x43_23 : Bool), v43 = .bool x43_23 ∧ Aside0 (shapesearchkeep_Src_List.j3 kq a1 t171 t176 x7_2 x8_2 x9_2 t171 x43_23 s0_0 x1001_2 = some (r1, r2)) ∧ Aside0 (kq ≤ kj16) ∧ Aside0 (Kd.R (Kd.int .i64) 3 wc w.heap.size (fun _ => True) u8 x8_2) ∧ Aside0 (IsS56 w0 wc g s0_0 x1001_2) ∧ Aside0 (KeepBut w wc g none) ∧ Aside0 (Below w0.heap.size w0 wc))
                  case first =>
                    have H := HC24.out
                    clear HC24
                    by_cases c25 : t171 = 2
                    · rw [if_pos c25] at H
                      have c25b0 : (t171 == 2) = true := beq_iff_eq.mpr c25
                      have c25b1 : (t171 != 2) = false := bne_eq_false_iff_eq.mpr c25
                      clear c25
                      (first | rw [c25b0] | (simp only [i64_w, i32_w]; rw [c25b0]) | skip)
                      have H' := Aside0.mk H
                      clear H
                      go_wp2
                      go_meet
                      case rel => exact ⟨_, ((t171 == 2)), (by first | rfl | (simp; done) | (simp [*]; done)), H', ⟨by have := HJ5.out; have := HK2.out; have := HJ16.out; first | omega | exact Nat.le_refl _⟩, ⟨by (with_reducible repeat (first | apply Kd.R_alloc | apply Kd.R_drewN | apply Kd.R_drew)); exact HO_8.out⟩, ⟨by repeat (first | (with_reducible first | exact HI0.out | apply IsS56.alloc | apply IsS56.drewN | apply IsS56.drew | apply IsS56.set_1) | exact HI0.out)⟩, ⟨by repeat (first | (with_reducible first | exact HK.out | apply KeepBut.set_ | apply keep_drewN | apply keep_drew | apply keep_alloc) | exact HK.out)⟩, ⟨by repeat (first | (with_reducible first | exact HB.out | apply below_alloc | apply pw_below_drewN | apply below_drew1 | refine below_set ?_ (IsS56.ge HI0.out)) | exact HB.out)⟩⟩
                    · rw [if_neg c25] at H
                      have c25b0 : (t171 == 2) = false := beq_eq_false_iff_ne.mpr c25
                      have c25b1 : (t171 != 2) = true := bne_iff_ne.mpr c25
                      (first | rw [c25b0] | (simp only [i64_w, i32_w]; rw [c25b0]) | skip)
                      have H' := Aside0.mk H
                      clear H
                      go_wp2
                      go_meet
                      case rel => exact ⟨_, ((t171 == 3)), (by first | rfl | (simp; done) | (simp [*]; done)), H', ⟨by have := HJ5.out; have := HK2.out; have := HJ16.out; first | omega | exact Nat.le_refl _⟩, ⟨by (with_reducible repeat (first | apply Kd.R_alloc | apply Kd.R_drewN | apply Kd.R_drew)); exact HO_8.out⟩, ⟨by repeat (first | (with_reducible first | exact HI0.out | apply IsS56.alloc | apply IsS56.drewN | apply IsS56.drew | apply IsS56.set_1) | exact HI0.out)⟩, ⟨by repeat (first | (with_reducible first | exact HK.out | apply KeepBut.set_ | apply keep_drewN | apply keep_drew | apply keep_alloc) | exact HK.out)⟩, ⟨by repeat (first | (with_reducible first | exact HB.out | apply below_alloc | apply pw_below_drewN | apply below_drew1 | refine below_set ?_ (IsS56.ge HI0.out)) | exact HB.out)⟩⟩
                  case rest =>
                    clear HC24
                    try clear c1
                    try clear c2
                    try clear p2
                    try clear c3
                    try clear p6
                    try clear c13
                    try clear c13b0
                    try clear c13b1
                    try clear c16
                    try clear c16b0
                    try clear c18
                    try clear c18b0
                    try clear c18b1
                    try clear c19
                    try clear c20
                    try clear c21
                    try clear c23
                    try clear c25
                    try clear c25b0
                    try clear c25b1
                    try clear p2
                    obtain ⟨kq, x43_23, rfl, HA, HJ23, HO_8, HI0, HK, HB⟩ := hcut
                    cases kq with
                    | zero => exact absurd HA.out (by simp [shapesearchkeep_Src_List.j3])
                    | succ kj23 =>
                      have H := HA.out
                      clear HA
                      simp only [shapesearchkeep_Src_List.j3] at H
                      by_cases c26 : x43_23 = true
                      · subst c26
                        have H1 : ((shapesearchkeep_Src_Range.f s0_0 x1001_2 (wrap64 (-t176)) t176).bind fun bt187 => ((shapesearchkeep_clip.f (wrap64 (x7_2 + bt187.1))).bind fun t189 => (if x8_2.length < 17592186044416 then (shapesearchkeep_Src_List.l0 kj23 a1 t171 t176 t189 (x8_2 ++ [t189]) (wrap64 (x9_2 + 1)) s0_0 bt187.2) else (none)))) = some (r1, r2) := by rw [if_pos rfl] at H; exact H
                        clear H
                        have H := H1
                        clear H1
                        replace H := Option.bind_eq_some_iff.mp H
                        obtain ⟨⟨t187, t188⟩, A270, H⟩ := H
                        replace H : ((shapesearchkeep_clip.f (wrap64 (x7_2 + t187))).bind fun t189 => (if x8_2.length < 17592186044416 then (shapesearchkeep_Src_List.l0 kj23 a1 t171 t176 t189 (x8_2 ++ [t189]) (wrap64 (x9_2 + 1)) s0_0 t188) else (none))) = some (r1, r2) := H
                        have A27 := Aside0.mk A270
                        clear A270
                        replace H := Option.bind_eq_some_iff.mp H
                        obtain ⟨t189, A280, H⟩ := H
                        replace H : (if x8_2.length < 17592186044416 then (shapesearchkeep_Src_List.l0 kj23 a1 t171 t176 t189 (x8_2 ++ [t189]) (wrap64 (x9_2 + 1)) s0_0 t188) else (none)) = some (r1, r2) := H
                        have A28 := Aside0.mk A280
                        clear A280
                        by_cases c29 : x8_2.length < 17592186044416
                        · rw [if_pos c29] at H
                          have LMc29 := Aside0.mk c29
                          clear c29
                          obtain ⟨y190, hy190⟩ : ∃ y_ : List Int, y_ = (x8_2 ++ [t189]) := ⟨_, rfl⟩
                          replace H : (shapesearchkeep_Src_List.l0 kj23 a1 t171 t176 t189 y190 (wrap64 (x9_2 + 1)) s0_0 t188) = some (r1, r2) := by first | (rw [hy190]; with_reducible exact H) | (have H2_ := (Option.bind_some _ _).symm.trans H; rw [hy190]; with_reducible exact H2_) | (have H2_ := (Option.bind_some _ _).symm.trans H; with_reducible exact H2_) | with_reducible exact H | (rw [hy190]; exact H) | exact H
                          have Ny190 := Aside0.mk hy190
                          clear hy190
                          have H' := Aside0.mk H
                          clear H
                          go_wp2_with (first | ((with_reducible refine gate_callee (f := 21) rfl ?_); refine goesL_ (some 51) rfl rfl Try.func21 (by kernel_rfl) rfl #[.pointer (some ⟨g, 0, none⟩), .int .i64 (wrap64 (-t176)), .int .i64 t176] rfl (by (try simp only [List.map_toArray, List.map_cons, List.map_nil]); first | done | rfl | (simp only [List.length_drop, List.length_take]; rfl)) ?_; (with_reducible refine (shapesearchkeep_Src_Range.calls g s0_0 x1001_2 (wrap64 (-t176)) t176 t187 t188 w0 _ ?side1 ?side2 A27.out).mono ?_); (case side1 => repeat (first | (with_reducible first | exact HI0.out | apply IsS56.alloc | apply IsS56.drewN | apply IsS56.drew | apply IsS56.set_1) | exact HI0.out)); (case side2 => repeat (first | (with_reducible first | exact HB.out | apply below_alloc | apply pw_below_drewN | apply below_drew1 | refine below_set ?_ (IsS56.ge HI0.out)) | exact HB.out)); rintro e w30 ⟨rfl, hi, hb, hk⟩; refine ⟨_, rfl, ?_⟩; have n0_ := Aside0.mk (Kd.R_mono (Kd.R_keep (IsS56.apart (show IsS56 w0 _ g s0_0 x1001_2 from by repeat (first | (with_reducible first | exact HI0.out | apply IsS56.alloc | apply IsS56.drewN | apply IsS56.drew | apply IsS56.set_1) | exact HI0.out)) (by (with_reducible repeat (first | apply Kd.R_alloc | apply Kd.R_drewN | apply Kd.R_drew)); exact HO_8.out) (by decide)) hk (fun _ h => h.2)) (fun _ h => h.1)); have n1_ := Aside0.mk (KeepBut.trans (by repeat (first | (with_reducible first | exact HK.out | apply KeepBut.set_ | apply keep_drewN | apply keep_drew | apply keep_alloc) | exact HK.out)) hk (.inl rfl)); have n2_ := Aside0.mk (hb); have n3_ := Aside0.mk (hi); clear HO_8; clear HK; clear HB; clear HI0; have HO_8 := n0_; have HK := n1_; have HB := n2_; have HI0 := n3_; clear n0_ n1_ n2_ n3_; (try clear hb); (try clear hb2); (try clear hk); (try clear hi)) | ((with_reducible refine gate_callee (f := 31) rfl ?_); refine goesL_ (some 53) rfl rfl Try.func31 (by kernel_rfl) rfl #[.int .i64 (wrap64 (x7_2 + t187))] rfl (by (try simp only [List.map_toArray, List.map_cons, List.map_nil]); first | done | rfl | (simp only [List.length_drop, List.length_take]; rfl)) ?_; (with_reducible refine (shapesearchkeep_clip.calls (wrap64 (x7_2 + t187)) t189 _ A28.out).mono ?_); rintro e w31 ⟨rfl, hb⟩; refine ⟨_, rfl, ?_⟩; have n0_ := Aside0.mk (Kd.R_below (by (with_reducible repeat (first | apply Kd.R_alloc | apply Kd.R_drewN | apply Kd.R_drew)); exact HO_8.out) hb); have n1_ := Aside0.mk (IsS56.below (by repeat (first | (with_reducible first | exact HI0.out | apply IsS56.alloc | apply IsS56.drewN | apply IsS56.drew | apply IsS56.set_1) | exact HI0.out)) hb); have n2_ := Aside0.mk (KeepBut.trans (by repeat (first | (with_reducible first | exact HK.out | apply KeepBut.set_ | apply keep_drewN | apply keep_drew | apply keep_alloc) | exact HK.out)) (KeepBut.of_below hb g none) (.inl rfl)); have n3_ := Aside0.mk (below_step (by repeat (first | (with_reducible first | exact HB.out | apply below_alloc | apply pw_below_drewN | apply below_drew1 | refine below_set ?_ (IsS56.ge HI0.out)) | exact HB.out)) hb); clear HO_8; clear HI0; clear HK; clear HB; have HO_8 := n0_; have HI0 := n1_; have HK := n2_; have HB := n3_; clear n0_ n1_ n2_ n3_; (try clear hb); (try clear hb2); (try clear hk); (try clear hi)) | ((with_reducible refine gate_builtin (b := .append) (xs := #[.tmp 54, .tmp 56]) rfl ?_); at_builtin; refine Kd.R_append (Kd.int .i64) w.heap.size rfl (.tmp 54) (.tmp 56) 22 3 (.int .i64 0) 8 rfl Try.underlying22 info3 rfl (by decide) (by omega) u8 x8_2 t189 [.int .i64 t189] (fun _ => True) (fun _ => False) rfl rfl ?aP (fun _ hk => hk.elim) ?aF ?aO (Below.refl _ _) ?aS ?aL ?_; (case aP => exact rfl); (case aF => exact (fun _ _ => trivial)); (case aO => exact (by (with_reducible repeat (first | apply Kd.R_alloc | apply Kd.R_drewN | apply Kd.R_drew)); exact HO_8.out)); (case aS => exact (keep_size (w := w) (g := g) (row := none) (by repeat (first | (with_reducible first | exact HK.out | apply KeepBut.set_ | apply keep_drewN | apply keep_drew | apply keep_alloc) | exact HK.out)))); (case aL => have := LMc29.out; omega); intro v191 w32 ho hb hg hat; rw [← Ny190.out] at ho; have n0_ := Aside0.mk (IsS56.grown (by repeat (first | (with_reducible first | exact HI0.out | apply IsS56.alloc | apply IsS56.drewN | apply IsS56.drew | apply IsS56.set_1) | exact HI0.out)) hg (IsS56.own_ne HI0.out HO_8.out (by decide))); have n1_ := Aside0.mk (below_weaken (by repeat (first | (with_reducible first | exact HB.out | apply below_alloc | apply pw_below_drewN | apply below_drew1 | refine below_set ?_ (IsS56.ge HI0.out)) | exact HB.out)) HL.out hb); have n2_ := Aside0.mk (KeepBut.trans (by repeat (first | (with_reducible first | exact HK.out | apply KeepBut.set_ | apply keep_drewN | apply keep_drew | apply keep_alloc) | exact HK.out)) (KeepBut.of_grown hg g) (Kd.R_base2 HO_8.out)); have n3_ := Aside0.mk (ho); clear HI0; clear HB; clear HK; clear HO_8; have HI0 := n0_; have HB := n1_; have HK := n2_; have HO192 := n3_; clear n0_ n1_ n2_ n3_; clear ho hb hg hat))
                          go_roundg kj23
                          case measure => have := HJ5.out; have := HK2.out; have := HJ16.out; have := HJ23.out; omega
                          case rel => exact ⟨(t189), (y190), (wrap64 (x9_2 + 1)), (t188), (by first | rfl | (simp; done) | (simp [*]; done)), (by first | rfl | (simp; done) | (simp [*]; done)), H', ⟨by have := HJ5.out; have := HK2.out; have := HJ16.out; have := HJ23.out; omega⟩, ⟨by (with_reducible repeat (first | apply Kd.R_alloc | apply Kd.R_drewN | apply Kd.R_drew)); exact HO192.out⟩, ⟨by repeat (first | (with_reducible first | exact HI0.out | apply IsS56.alloc | apply IsS56.drewN | apply IsS56.drew | apply IsS56.set_1) | exact HI0.out)⟩, ⟨by repeat (first | (with_reducible first | exact HK.out | apply KeepBut.set_ | apply keep_drewN | apply keep_drew | apply keep_alloc) | exact HK.out)⟩, ⟨by repeat (first | (with_reducible first | exact HB.out | apply below_alloc | apply pw_below_drewN | apply below_drew1 | refine below_set ?_ (IsS56.ge HI0.out)) | exact HB.out)⟩⟩
                        · rw [if_neg c29] at H
                          exact absurd H (by simp)
                      · replace c26 := Bool.eq_false_iff.mpr c26
                        subst c26
                        have H1 : (if t171 = 4 then ((shapesearchkeep_Src_N.f s0_0 x1001_2 4).bind fun bt193 => (if bt193.1 = 0 then ((shapesearchkeep_Src_Range.f s0_0 bt193.2 (wrap64 (-t176)) t176).bind fun bt195 => (if x8_2.length < 17592186044416 then (shapesearchkeep_Src_List.l0 kj23 a1 t171 t176 bt195.1 (x8_2 ++ [bt195.1]) (wrap64 (x9_2 + 1)) s0_0 bt195.2) else (none))) else (if x8_2.length < 17592186044416 then (shapesearchkeep_Src_List.l0 kj23 a1 t171 t176 x7_2 (x8_2 ++ [x7_2]) (wrap64 (x9_2 + 1)) s0_0 bt193.2) else (none)))) else ((shapesearchkeep_Src_Pick.f s0_0 x1001_2 (([(-1000), 1000, 1000, 0] : List Int))).bind fun bt206 => (if x8_2.length < 17592186044416 then (shapesearchkeep_Src_List.l0 kj23 a1 t171 t176 x7_2 (x8_2 ++ [bt206.1]) (wrap64 (x9_2 + 1)) s0_0 bt206.2) else (none)))) = some (r1, r2) := by rw [if_neg (show ¬ (false = true) by decide)] at H; exact H
                        clear H
                        have H := H1
                        clear H1
                        by_cases c33 : t171 = 4
                        · rw [if_pos c33] at H
                          have c33b0 : (t171 == 4) = true := beq_iff_eq.mpr c33
                          have c33b1 : (t171 != 4) = false := bne_eq_false_iff_eq.mpr c33
                          clear c33
                          replace H := Option.bind_eq_some_iff.mp H
                          obtain ⟨⟨t193, t194⟩, A340, H⟩ := H
                          replace H : (if t193 = 0 then ((shapesearchkeep_Src_Range.f s0_0 t194 (wrap64 (-t176)) t176).bind fun bt195 => (if x8_2.length < 17592186044416 then (shapesearchkeep_Src_List.l0 kj23 a1 t171 t176 bt195.1 (x8_2 ++ [bt195.1]) (wrap64 (x9_2 + 1)) s0_0 bt195.2) else (none))) else (if x8_2.length < 17592186044416 then (shapesearchkeep_Src_List.l0 kj23 a1 t171 t176 x7_2 (x8_2 ++ [x7_2]) (wrap64 (x9_2 + 1)) s0_0 t194) else (none))) = some (r1, r2) := H
                          have A34 := Aside0.mk A340
                          clear A340
                          by_cases c35 : t193 = 0
                          · rw [if_pos c35] at H
                            have c35b0 : (t193 == 0) = true := beq_iff_eq.mpr c35
                            have c35b1 : (t193 != 0) = false := bne_eq_false_iff_eq.mpr c35
                            clear c35
                            replace H := Option.bind_eq_some_iff.mp H
                            obtain ⟨⟨t195, t196⟩, A360, H⟩ := H
                            replace H : (if x8_2.length < 17592186044416 then (shapesearchkeep_Src_List.l0 kj23 a1 t171 t176 t195 (x8_2 ++ [t195]) (wrap64 (x9_2 + 1)) s0_0 t196) else (none)) = some (r1, r2) := H
                            have A36 := Aside0.mk A360
                            clear A360
                            by_cases c37 : x8_2.length < 17592186044416
                            · rw [if_pos c37] at H
                              have LMc37 := Aside0.mk c37
                              clear c37
                              obtain ⟨y197, hy197⟩ : ∃ y_ : List Int, y_ = (x8_2 ++ [t195]) := ⟨_, rfl⟩
                              replace H : (shapesearchkeep_Src_List.l0 kj23 a1 t171 t176 t195 y197 (wrap64 (x9_2 + 1)) s0_0 t196) = some (r1, r2) := by first | (rw [hy197]; with_reducible exact H) | (have H2_ := (Option.bind_some _ _).symm.trans H; rw [hy197]; with_reducible exact H2_) | (have H2_ := (Option.bind_some _ _).symm.trans H; with_reducible exact H2_) | with_reducible exact H | (rw [hy197]; exact H) | exact H
                              have Ny197 := Aside0.mk hy197
                              clear hy197
                              have H' := Aside0.mk H
                              clear H
                              go_wp2_with (first | ((with_reducible refine gate_callee (f := 23) rfl ?_); refine goesL_ (some 61) rfl rfl Try.func23 (by kernel_rfl) rfl #[.pointer (some ⟨g, 0, none⟩), .int .i64 4] rfl (by (try simp only [List.map_toArray, List.map_cons, List.map_nil]); first | done | rfl | (simp only [List.length_drop, List.length_take]; rfl)) ?_; (with_reducible refine (shapesearchkeep_Src_N.calls g s0_0 x1001_2 4 t193 t194 w0 _ ?side1 ?side2 A34.out).mono ?_); (case side1 => repeat (first | (with_reducible first | exact HI0.out | apply IsS56.alloc | apply IsS56.drewN | apply IsS56.drew | apply IsS56.set_1) | exact HI0.out)); (case side2 => repeat (first | (with_reducible first | exact HB.out | apply below_alloc | apply pw_below_drewN | apply below_drew1 | refine below_set ?_ (IsS56.ge HI0.out)) | exact HB.out)); rintro e w38 ⟨rfl, hi, hb, hk⟩; refine ⟨_, rfl, ?_⟩; have n0_ := Aside0.mk (Kd.R_mono (Kd.R_keep (IsS56.apart (show IsS56 w0 _ g s0_0 x1001_2 from by repeat (first | (with_reducible first | exact HI0.out | apply IsS56.alloc | apply IsS56.drewN | apply IsS56.drew | apply IsS56.set_1) | exact HI0.out)) (by (with_reducible repeat (first | apply Kd.R_alloc | apply Kd.R_drewN | apply Kd.R_drew)); exact HO_8.out) (by decide)) hk (fun _ h => h.2)) (fun _ h => h.1)); have n1_ := Aside0.mk (KeepBut.trans (by repeat (first | (with_reducible first | exact HK.out | apply KeepBut.set_ | apply keep_drewN | apply keep_drew | apply keep_alloc) | exact HK.out)) hk (.inl rfl)); have n2_ := Aside0.mk (hb); have n3_ := Aside0.mk (hi); clear HO_8; clear HK; clear HB; clear HI0; have HO_8 := n0_; have HK := n1_; have HB := n2_; have HI0 := n3_; clear n0_ n1_ n2_ n3_; (try clear hb); (try clear hb2); (try clear hk); (try clear hi)) | ((with_reducible refine gate_callee (f := 21) rfl ?_); refine goesL_ (some 67) rfl rfl Try.func21 (by kernel_rfl) rfl #[.pointer (some ⟨g, 0, none⟩), .int .i64 (wrap64 (-t176)), .int .i64 t176] rfl (by (try simp only [List.map_toArray, List.map_cons, List.map_nil]); first | done | rfl | (simp only [List.length_drop, List.length_take]; rfl)) ?_; (with_reducible refine (shapesearchkeep_Src_Range.calls g s0_0 t194 (wrap64 (-t176)) t176 t195 t196 w0 _ ?side1 ?side2 A36.out).mono ?_); (case side1 => repeat (first | (with_reducible first | exact HI0.out | apply IsS56.alloc | apply IsS56.drewN | apply IsS56.drew | apply IsS56.set_1) | exact HI0.out)); (case side2 => repeat (first | (with_reducible first | exact HB.out | apply below_alloc | apply pw_below_drewN | apply below_drew1 | refine below_set ?_ (IsS56.ge HI0.out)) | exact HB.out)); rintro e w39 ⟨rfl, hi, hb, hk⟩; refine ⟨_, rfl, ?_⟩; have n0_ := Aside0.mk (Kd.R_mono (Kd.R_keep (IsS56.apart (show IsS56 w0 _ g s0_0 t194 from by repeat (first | (with_reducible first | exact HI0.out | apply IsS56.alloc | apply IsS56.drewN | apply IsS56.drew | apply IsS56.set_1) | exact HI0.out)) (by (with_reducible repeat (first | apply Kd.R_alloc | apply Kd.R_drewN | apply Kd.R_drew)); exact HO_8.out) (by decide)) hk (fun _ h => h.2)) (fun _ h => h.1)); have n1_ := Aside0.mk (KeepBut.trans (by repeat (first | (with_reducible first | exact HK.out | apply KeepBut.set_ | apply keep_drewN | apply keep_drew | apply keep_alloc) | exact HK.out)) hk (.inl rfl)); have n2_ := Aside0.mk (hb); have n3_ := Aside0.mk (hi); clear HO_8; clear HK; clear HB; clear HI0; have HO_8 := n0_; have HK := n1_; have HB := n2_; have HI0 := n3_; clear n0_ n1_ n2_ n3_; (try clear hb); (try clear hb2); (try clear hk); (try clear hi)) | ((with_reducible refine gate_builtin (b := .append) (xs := #[.tmp 68, .tmp 70]) rfl ?_); at_builtin; refine Kd.R_append (Kd.int .i64) w.heap.size rfl (.tmp 68) (.tmp 70) 22 3 (.int .i64 0) 8 rfl Try.underlying22 info3 rfl (by decide) (by omega) u8 x8_2 t195 [.int .i64 t195] (fun _ => True) (fun _ => False) rfl rfl ?aP (fun _ hk => hk.elim) ?aF ?aO (Below.refl _ _) ?aS ?aL ?_; (case aP => exact rfl); (case aF => exact (fun _ _ => trivial)); (case aO => exact (by (with_reducible repeat (first | apply Kd.R_alloc | apply Kd.R_drewN | apply Kd.R_drew)); exact HO_8.out)); (case aS => exact (keep_size (w := w) (g := g) (row := none) (by repeat (first | (with_reducible first | exact HK.out | apply KeepBut.set_ | apply keep_drewN | apply keep_drew | apply keep_alloc) | exact HK.out)))); (case aL => have := LMc37.out; omega); intro v198 w40 ho hb hg hat; rw [← Ny197.out] at ho; have n0_ := Aside0.mk (IsS56.grown (by repeat (first | (with_reducible first | exact HI0.out | apply IsS56.alloc | apply IsS56.drewN | apply IsS56.drew | apply IsS56.set_1) | exact HI0.out)) hg (IsS56.own_ne HI0.out HO_8.out (by decide))); have n1_ := Aside0.mk (below_weaken (by repeat (first | (with_reducible first | exact HB.out | apply below_alloc | apply pw_below_drewN | apply below_drew1 | refine below_set ?_ (IsS56.ge HI0.out)) | exact HB.out)) HL.out hb); have n2_ := Aside0.mk (KeepBut.trans (by repeat (first | (with_reducible first | exact HK.out | apply KeepBut.set_ | apply keep_drewN | apply keep_drew | apply keep_alloc) | exact HK.out)) (KeepBut.of_grown hg g) (Kd.R_base2 HO_8.out)); have n3_ := Aside0.mk (ho); clear HI0; clear HB; clear HK; clear HO_8; have HI0 := n0_; have HB := n1_; have HK := n2_; have HO199 := n3_; clear n0_ n1_ n2_ n3_; clear ho hb hg hat))
                              go_roundg kj23
                              case measure => have := HJ5.out; have := HK2.out; have := HJ16.out; have := HJ23.out; omega
                              case rel => exact ⟨(t195), (y197), (wrap64 (x9_2 + 1)), (t196), (by first | rfl | (simp; done) | (simp [*]; done)), (by first | rfl | (simp; done) | (simp [*]; done)), H', ⟨by have := HJ5.out; have := HK2.out; have := HJ16.out; have := HJ23.out; omega⟩, ⟨by (with_reducible repeat (first | apply Kd.R_alloc | apply Kd.R_drewN | apply Kd.R_drew)); exact HO199.out⟩, ⟨by repeat (first | (with_reducible first | exact HI0.out | apply IsS56.alloc | apply IsS56.drewN | apply IsS56.drew | apply IsS56.set_1) | exact HI0.out)⟩, ⟨by repeat (first | (with_reducible first | exact HK.out | apply KeepBut.set_ | apply keep_drewN | apply keep_drew | apply keep_alloc) | exact HK.out)⟩, ⟨by repeat (first | (with_reducible first | exact HB.out | apply below_alloc | apply pw_below_drewN | apply below_drew1 | refine below_set ?_ (IsS56.ge HI0.out)) | exact HB.out)⟩⟩
                            · rw [if_neg c37] at H
                              exact absurd H (by simp)
                          · rw [if_neg c35] at H
                            have c35b0 : (t193 == 0) = false := beq_eq_false_iff_ne.mpr c35
                            have c35b1 : (t193 != 0) = true := bne_iff_ne.mpr c35
                            by_cases c41 : x8_2.length < 17592186044416
                            · rw [if_pos c41] at H
                              have LMc41 := Aside0.mk c41
                              clear c41
                              obtain ⟨y200, hy200⟩ : ∃ y_ : List Int, y_ = (x8_2 ++ [x7_2]) := ⟨_, rfl⟩
                              replace H : (shapesearchkeep_Src_List.l0 kj23 a1 t171 t176 x7_2 y200 (wrap64 (x9_2 + 1)) s0_0 t194) = some (r1, r2) := by first | (rw [hy200]; with_reducible exact H) | (have H2_ := (Option.bind_some _ _).symm.trans H; rw [hy200]; with_reducible exact H2_) | (have H2_ := (Option.bind_some _ _).symm.trans H; with_reducible exact H2_) | with_reducible exact H | (rw [hy200]; exact H) | exact H
                              have Ny200 := Aside0.mk hy200
                              clear hy200
                              have H' := Aside0.mk H
                              clear H
                              go_wp2_with (first | ((with_reducible refine gate_callee (f := 23) rfl ?_); refine goesL_ (some 61) rfl rfl Try.func23 (by kernel_rfl) rfl #[.pointer (some ⟨g, 0, none⟩), .int .i64 4] rfl (by (try simp only [List.map_toArray, List.map_cons, List.map_nil]); first | done | rfl | (simp only [List.length_drop, List.length_take]; rfl)) ?_; (with_reducible refine (shapesearchkeep_Src_N.calls g s0_0 x1001_2 4 t193 t194 w0 _ ?side1 ?side2 A34.out).mono ?_); (case side1 => repeat (first | (with_reducible first | exact HI0.out | apply IsS56.alloc | apply IsS56.drewN | apply IsS56.drew | apply IsS56.set_1) | exact HI0.out)); (case side2 => repeat (first | (with_reducible first | exact HB.out | apply below_alloc | apply pw_below_drewN | apply below_drew1 | refine below_set ?_ (IsS56.ge HI0.out)) | exact HB.out)); rintro e w42 ⟨rfl, hi, hb, hk⟩; refine ⟨_, rfl, ?_⟩; have n0_ := Aside0.mk (Kd.R_mono (Kd.R_keep (IsS56.apart (show IsS56 w0 _ g s0_0 x1001_2 from by repeat (first | (with_reducible first | exact HI0.out | apply IsS56.alloc | apply IsS56.drewN | apply IsS56.drew | apply IsS56.set_1) | exact HI0.out)) (by (with_reducible repeat (first | apply Kd.R_alloc | apply Kd.R_drewN | apply Kd.R_drew)); exact HO_8.out) (by decide)) hk (fun _ h => h.2)) (fun _ h => h.1)); have n1_ := Aside0.mk (KeepBut.trans (by repeat (first | (with_reducible first | exact HK.out | apply KeepBut.set_ | apply keep_drewN | apply keep_drew | apply keep_alloc) | exact HK.out)) hk (.inl rfl)); have n2_ := Aside0.mk (hb); have n3_ := Aside0.mk (hi); clear HO_8; clear HK; clear HB; clear HI0; have HO_8 := n0_; have HK := n1_; have HB := n2_; have HI0 := n3_; clear n0_ n1_ n2_ n3_; (try clear hb); (try clear hb2); (try clear hk); (try clear hi)) | ((with_reducible refine gate_builtin (b := .append) (xs := #[.tmp 68, .tmp 70]) rfl ?_); at_builtin; refine Kd.R_append (Kd.int .i64) w.heap.size rfl (.tmp 68) (.tmp 70) 22 3 (.int .i64 0) 8 rfl Try.underlying22 info3 rfl (by decide) (by omega) u8 x8_2 x7_2 [.int .i64 x7_2] (fun _ => True) (fun _ => False) rfl rfl ?aP (fun _ hk => hk.elim) ?aF ?aO (Below.refl _ _) ?aS ?aL ?_; (case aP => exact rfl); (case aF => exact (fun _ _ => trivial)); (case aO => exact (by (with_reducible repeat (first | apply Kd.R_alloc | apply Kd.R_drewN | apply Kd.R_drew)); exact HO_8.out)); (case aS => exact (keep_size (w := w) (g := g) (row := none) (by repeat (first | (with_reducible first | exact HK.out | apply KeepBut.set_ | apply keep_drewN | apply keep_drew | apply keep_alloc) | exact HK.out)))); (case aL => have := LMc41.out; omega); intro v201 w43 ho hb hg hat; rw [← Ny200.out] at ho; have n0_ := Aside0.mk (IsS56.grown (by repeat (first | (with_reducible first | exact HI0.out | apply IsS56.alloc | apply IsS56.drewN | apply IsS56.drew | apply IsS56.set_1) | exact HI0.out)) hg (IsS56.own_ne HI0.out HO_8.out (by decide))); have n1_ := Aside0.mk (below_weaken (by repeat (first | (with_reducible first | exact HB.out | apply below_alloc | apply pw_below_drewN | apply below_drew1 | refine below_set ?_ (IsS56.ge HI0.out)) | exact HB.out)) HL.out hb); have n2_ := Aside0.mk (KeepBut.trans (by repeat (first | (with_reducible first | exact HK.out | apply KeepBut.set_ | apply keep_drewN | apply keep_drew | apply keep_alloc) | exact HK.out)) (KeepBut.of_grown hg g) (Kd.R_base2 HO_8.out)); have n3_ := Aside0.mk (ho); clear HI0; clear HB; clear HK; clear HO_8; have HI0 := n0_; have HB := n1_; have HK := n2_; have HO202 := n3_; clear n0_ n1_ n2_ n3_; clear ho hb hg hat))
                              go_roundg kj23
                              case measure => have := HJ5.out; have := HK2.out; have := HJ16.out; have := HJ23.out; omega
                              case rel => exact ⟨(x7_2), (y200), (wrap64 (x9_2 + 1)), (t194), (by first | rfl | (simp; done) | (simp [*]; done)), (by first | rfl | (simp; done) | (simp [*]; done)), H', ⟨by have := HJ5.out; have := HK2.out; have := HJ16.out; have := HJ23.out; omega⟩, ⟨by (with_reducible repeat (first | apply Kd.R_alloc | apply Kd.R_drewN | apply Kd.R_drew)); exact HO202.out⟩, ⟨by repeat (first | (with_reducible first | exact HI0.out | apply IsS56.alloc | apply IsS56.drewN | apply IsS56.drew | apply IsS56.set_1) | exact HI0.out)⟩, ⟨by repeat (first | (with_reducible first | exact HK.out | apply KeepBut.set_ | apply keep_drewN | apply keep_drew | apply keep_alloc) | exact HK.out)⟩, ⟨by repeat (first | (with_reducible first | exact HB.out | apply below_alloc | apply pw_below_drewN | apply below_drew1 | refine below_set ?_ (IsS56.ge HI0.out)) | exact HB.out)⟩⟩
                            · rw [if_neg c41] at H
                              exact absurd H (by simp)
                        · rw [if_neg c33] at H
                          have c33b0 : (t171 == 4) = false := beq_eq_false_iff_ne.mpr c33
                          have c33b1 : (t171 != 4) = true := bne_iff_ne.mpr c33
                          obtain ⟨y203, hy203⟩ : ∃ y_ : List Int, y_ = (([(-1000), 1000, 1000, 0] : List Int)) := ⟨_, rfl⟩
                          replace H : ((shapesearchkeep_Src_Pick.f s0_0 x1001_2 y203).bind fun bt206 => (if x8_2.length < 17592186044416 then (shapesearchkeep_Src_List.l0 kj23 a1 t171 t176 x7_2 (x8_2 ++ [bt206.1]) (wrap64 (x9_2 + 1)) s0_0 bt206.2) else (none))) = some (r1, r2) := by first | (rw [hy203]; with_reducible exact H) | (have H2_ := (Option.bind_some _ _).symm.trans H; rw [hy203]; with_reducible exact H2_) | (have H2_ := (Option.bind_some _ _).symm.trans H; with_reducible exact H2_) | with_reducible exact H | (rw [hy203]; exact H) | exact H
                          have Ny203 := Aside0.mk hy203
                          clear hy203
                          replace H := Option.bind_eq_some_iff.mp H
                          obtain ⟨⟨t206, t207⟩, A440, H⟩ := H
                          replace H : (if x8_2.length < 17592186044416 then (shapesearchkeep_Src_List.l0 kj23 a1 t171 t176 x7_2 (x8_2 ++ [t206]) (wrap64 (x9_2 + 1)) s0_0 t207) else (none)) = some (r1, r2) := H
                          have A44 := Aside0.mk A440
                          clear A440
                          by_cases c45 : x8_2.length < 17592186044416
                          · rw [if_pos c45] at H
                            have LMc45 := Aside0.mk c45
                            clear c45
                            obtain ⟨y208, hy208⟩ : ∃ y_ : List Int, y_ = (x8_2 ++ [t206]) := ⟨_, rfl⟩
                            replace H : (shapesearchkeep_Src_List.l0 kj23 a1 t171 t176 x7_2 y208 (wrap64 (x9_2 + 1)) s0_0 t207) = some (r1, r2) := by first | (rw [hy208]; with_reducible exact H) | (have H2_ := (Option.bind_some _ _).symm.trans H; rw [hy208]; with_reducible exact H2_) | (have H2_ := (Option.bind_some _ _).symm.trans H; with_reducible exact H2_) | with_reducible exact H | (rw [hy208]; exact H) | exact H
                            have Ny208 := Aside0.mk hy208
                            clear hy208
                            have H' := Aside0.mk H
                            clear H
                            go_wp2_with (first | ((with_reducible refine gate_dst (N := 28) rfl ?_); refine Kd.R_lit (Kd.int .i64) _ 3 ?hg (N := 28) ?hd (xs := ([(-1000), 1000, 1000, 0] : List Int)) (inner := [.int .i64 (-1000), .int .i64 1000, .int .i64 1000, .int .i64 0]) (ok := fun _ => True) (okp := fun _ => True) ?hr ?hp (fun _ hk => hk) trivial (Below.refl _ _) (Nat.le_refl _) (by simp) ?_; (case hd => rfl); (case hg => rfl); (case hr => first | (go_simp; done) | (go_simp; rfl)); (case hp => exact (Reps.one (show Kd.M (Kd.int .i64) _ _ _ (-1000) [.int .i64 (-1000)] from rfl) (Reps.one (show Kd.M (Kd.int .i64) _ _ _ 1000 [.int .i64 1000] from rfl) (Reps.one (show Kd.M (Kd.int .i64) _ _ _ 1000 [.int .i64 1000] from rfl) (Reps.one (show Kd.M (Kd.int .i64) _ _ _ 0 [.int .i64 0] from rfl) (Reps.none _ _)))))); intro v204 w46 ho47 hb hg_ hnew_; clear hg_ hnew_; (first | rw [← Ny203.out] at ho47 | (simp only [Int.reduceToNat] at ho47; rw [← Ny203.out] at ho47)); have n0_ := Aside0.mk (Kd.R_elder' (by (with_reducible repeat (first | apply Kd.R_alloc | apply Kd.R_drewN | apply Kd.R_drew)); exact HO_8.out) (Kd.R_base ho47) hb); have n1_ := Aside0.mk (Kd.R_lower (Kd.R_new' ho47 (Kd.R_lt (by (with_reducible repeat (first | apply Kd.R_alloc | apply Kd.R_drewN | apply Kd.R_drew)); exact HO_8.out))) (keep_size (w := w) (g := g) (row := none) (by repeat (first | (with_reducible first | exact HK.out | apply KeepBut.set_ | apply keep_drewN | apply keep_drew | apply keep_alloc) | exact HK.out)))); have n2_ := Aside0.mk (IsS56.below (by repeat (first | (with_reducible first | exact HI0.out | apply IsS56.alloc | apply IsS56.drewN | apply IsS56.drew | apply IsS56.set_1) | exact HI0.out)) hb); have n3_ := Aside0.mk (KeepBut.trans (by repeat (first | (with_reducible first | exact HK.out | apply KeepBut.set_ | apply keep_drewN | apply keep_drew | apply keep_alloc) | exact HK.out)) (KeepBut.of_below hb g none) (.inl rfl)); have n4_ := Aside0.mk (below_step (by repeat (first | (with_reducible first | exact HB.out | apply below_alloc | apply pw_below_drewN | apply below_drew1 | refine below_set ?_ (IsS56.ge HI0.out)) | exact HB.out)) hb); clear HO_8; clear HI0; clear HK; clear HB; have HO_8 := n0_; have HO205 := n1_; have HI0 := n2_; have HK := n3_; have HB := n4_; clear n0_ n1_ n2_ n3_ n4_; clear hb ho47; obtain ⟨Ao48, co48, eo48⟩ := Kd.R_slice HO205.out; subst eo48) | ((with_reducible refine gate_callee (f := 37) rfl ?_); refine goesL_ (some 29) rfl rfl Try.func37 (by kernel_rfl) rfl #[.pointer (some ⟨g, 0, none⟩), .slice Ao48 y203.length co48] rfl (by (try simp only [List.map_toArray, List.map_cons, List.map_nil]); first | done | rfl | (simp only [List.length_drop, List.length_take]; rfl)) ?_; (with_reducible refine (shapesearchkeep_Src_Pick.calls g s0_0 x1001_2 _ _ y203 t206 t207 w0 _ ?side1 ?side2 ?side3 ?side4 ?side5 A44.out).mono ?_); (case side1 => repeat (first | (with_reducible first | exact HI0.out | apply IsS56.alloc | apply IsS56.drewN | apply IsS56.drew | apply IsS56.set_1) | exact HI0.out)); (case side2 => repeat (first | (with_reducible first | exact HB.out | apply below_alloc | apply pw_below_drewN | apply below_drew1 | refine below_set ?_ (IsS56.ge HI0.out)) | exact HB.out)); (case side3 => repeat (first | exact (Kd.R_reads' HO205.out).2.2 | (with_reducible refine Kd.C_alloc ?_ _) | (with_reducible refine Kd.C_drewN ?_ _) | (with_reducible refine Kd.C_drew ?_))); (case side4 => exact (Kd.R_reads' HO205.out).2.1); (case side5 => exact far_slice (IsS56.own_ne HI0.out HO205.out (by decide))); rintro e w49 ⟨rfl, hi, hb, hk⟩; refine ⟨_, rfl, ?_⟩; have n0_ := Aside0.mk (Kd.R_mono (Kd.R_keep (IsS56.apart (show IsS56 w0 _ g s0_0 x1001_2 from by repeat (first | (with_reducible first | exact HI0.out | apply IsS56.alloc | apply IsS56.drewN | apply IsS56.drew | apply IsS56.set_1) | exact HI0.out)) (by (with_reducible repeat (first | apply Kd.R_alloc | apply Kd.R_drewN | apply Kd.R_drew)); exact HO_8.out) (by decide)) hk (fun _ h => h.2)) (fun _ h => h.1)); have n1_ := Aside0.mk (Kd.R_mono (Kd.R_keep (IsS56.apart (show IsS56 w0 _ g s0_0 x1001_2 from by repeat (first | (with_reducible first | exact HI0.out | apply IsS56.alloc | apply IsS56.drewN | apply IsS56.drew | apply IsS56.set_1) | exact HI0.out)) (by (with_reducible repeat (first | apply Kd.R_alloc | apply Kd.R_drewN | apply Kd.R_drew)); exact HO205.out) (by decide)) hk (fun _ h => h.2)) (fun _ h => h.1)); have n2_ := Aside0.mk (KeepBut.trans (by repeat (first | (with_reducible first | exact HK.out | apply KeepBut.set_ | apply keep_drewN | apply keep_drew | apply keep_alloc) | exact HK.out)) hk (.inl rfl)); have n3_ := Aside0.mk (hb); have n4_ := Aside0.mk (hi); clear HO_8; clear HO205; clear HK; clear HB; clear HI0; have HO_8 := n0_; have HO205 := n1_; have HK := n2_; have HB := n3_; have HI0 := n4_; clear n0_ n1_ n2_ n3_ n4_; (try clear hb); (try clear hb2); (try clear hk); (try clear hi)) | ((with_reducible refine gate_builtin (b := .append) (xs := #[.tmp 26, .tmp 30]) rfl ?_); at_builtin; refine Kd.R_append (Kd.int .i64) w.heap.size rfl (.tmp 26) (.tmp 30) 22 3 (.int .i64 0) 8 rfl Try.underlying22 info3 rfl (by decide) (by omega) u8 x8_2 t206 [.int .i64 t206] (fun k_ => some k_ ≠ (.slice Ao48 y203.length co48 : Value).ownBlock) (fun _ => False) rfl rfl ?aP (fun _ hk => hk.elim) ?aF ?aO (Below.refl _ _) ?aS ?aL ?_; (case aP => exact rfl); (case aF => exact (fun k_ hk => Kd.fresh' (Kd.R_lt (by (with_reducible repeat (first | apply Kd.R_alloc | apply Kd.R_drewN | apply Kd.R_drew)); exact HO205.out)) k_ hk)); (case aO => exact (by (with_reducible repeat (first | apply Kd.R_alloc | apply Kd.R_drewN | apply Kd.R_drew)); exact Kd.R_mono HO_8.out (fun _ hk => hk.2))); (case aS => exact (keep_size (w := w) (g := g) (row := none) (by repeat (first | (with_reducible first | exact HK.out | apply KeepBut.set_ | apply keep_drewN | apply keep_drew | apply keep_alloc) | exact HK.out)))); (case aL => have := LMc45.out; omega); intro v209 w50 ho hb hg hat; rw [← Ny208.out] at ho; have n0_ := Aside0.mk (IsS56.grown (by repeat (first | (with_reducible first | exact HI0.out | apply IsS56.alloc | apply IsS56.drewN | apply IsS56.drew | apply IsS56.set_1) | exact HI0.out)) hg (IsS56.own_ne HI0.out HO_8.out (by decide))); have n1_ := Aside0.mk (Kd.R_after (ok := (fun _ => True)) (by (with_reducible repeat (first | apply Kd.R_alloc | apply Kd.R_drewN | apply Kd.R_drew)); exact HO205.out) hg hat); have n2_ := Aside0.mk (below_weaken (by repeat (first | (with_reducible first | exact HB.out | apply below_alloc | apply pw_below_drewN | apply below_drew1 | refine below_set ?_ (IsS56.ge HI0.out)) | exact HB.out)) HL.out hb); have n3_ := Aside0.mk (KeepBut.trans (by repeat (first | (with_reducible first | exact HK.out | apply KeepBut.set_ | apply keep_drewN | apply keep_drew | apply keep_alloc) | exact HK.out)) (KeepBut.of_grown hg g) (Kd.R_base2 HO_8.out)); have n4_ := Aside0.mk (ho); clear HI0; clear HO205; clear HB; clear HK; clear HO_8; have HI0 := n0_; have HO205 := n1_; have HB := n2_; have HK := n3_; have HO210 := n4_; clear n0_ n1_ n2_ n3_ n4_; clear ho hb hg hat))
                            go_roundg kj23
                            case measure => have := HJ5.out; have := HK2.out; have := HJ16.out; have := HJ23.out; omega
                            case rel => exact ⟨(x7_2), (y208), (wrap64 (x9_2 + 1)), (t207), (by first | rfl | (simp; done) | (simp [*]; done)), (by first | rfl | (simp; done) | (simp [*]; done)), H', ⟨by have := HJ5.out; have := HK2.out; have := HJ16.out; have := HJ23.out; omega⟩, ⟨by (with_reducible repeat (first | apply Kd.R_alloc | apply Kd.R_drewN | apply Kd.R_drew)); exact Kd.R_mono HO210.out (fun _ hk => trivial)⟩, ⟨by repeat (first | (with_reducible first | exact HI0.out | apply IsS56.alloc | apply IsS56.drewN | apply IsS56.drew | apply IsS56.set_1) | exact HI0.out)⟩, ⟨by repeat (first | (with_reducible first | exact HK.out | apply KeepBut.set_ | apply keep_drewN | apply keep_drew | apply keep_alloc) | exact HK.out)⟩, ⟨by repeat (first | (with_reducible first | exact HB.out | apply below_alloc | apply pw_below_drewN | apply below_drew1 | refine below_set ?_ (IsS56.ge HI0.out)) | exact HB.out)⟩⟩
                          · rw [if_neg c45] at H
                            exact absurd H (by simp)
          · rw [if_neg c16] at H
            have c16b0 : decide (x9_2 < a1) = false := decide_eq_false c16
            clear c16
            simp only [Option.some.injEq, Prod.mk.injEq] at H
            obtain ⟨rfl, rfl⟩ := H
            go_wp2
            go_ret
            exact ⟨_, by first | rfl | (simp [errW_none, errW_some] <;> rfl) | (simp [*, errW_none, errW_some] <;> rfl), by (with_reducible repeat (first | apply Kd.R_alloc | apply Kd.R_drewN | apply Kd.R_drew)); exact HO_8.out, by repeat (first | (with_reducible first | exact HI0.out | apply IsS56.alloc | apply IsS56.drewN | apply IsS56.drew | apply IsS56.set_1) | exact HI0.out), by repeat (first | (with_reducible first | exact HB.out | apply below_alloc | apply pw_below_drewN | apply below_drew1 | refine below_set ?_ (IsS56.ge HI0.out)) | exact HB.out), by repeat (first | (with_reducible first | exact HK.out | apply KeepBut.set_ | apply keep_drewN | apply keep_drew | apply keep_alloc) | exact HK.out)⟩

/-! ### shapesearchlaw12_EuclidProfiles: function 7 -/
def shapesearchlaw12_EuclidProfiles.l0 : Nat → List Int → Int → List Int → List Int → Int → Int → Option (Bool)
  | 0, _, _, _, _, _, _ => none
  | k + 1, x6, x7, x9, x10, x66, x67 => if x67 < x66 then (if 0 ≤ x67 then (if x67 ≤ (wrap64 (x67 + x7)) then (if (wrap64 (x67 + x7)) ≤ (x6.length : Int) then ((euclid_Distance.f k x9 ((x6.take ((wrap64 (x67 + x7)) : Int).toNat).drop (x67 : Int).toNat)).bind fun bt236 => (if bt236.2 = 0 then (if x67 < (x10.length : Int) then (if bt236.1 = (rd x10 x67) then (shapesearchlaw12_EuclidProfiles.l0 k x6 x7 x9 x10 x66 (wrap64 (x67 + 1))) else (some false)) else (none)) else (some false))) else (none)) else (none)) else (none)) else ((shapesearchlaw12_awake.f k).bind fun t239 => (some t239))
def shapesearchlaw12_EuclidProfiles.f (k : Nat) (l0 : List Int) (a1 : Int) : Option (Bool) := (shapesearchkeep_New.f l0).bind fun bt211 => ((shapesearchkeep_Src_Range.f bt211.1 bt211.2 2 40).bind fun bt214 => ((shapesearchkeep_Src_List.f k bt211.1 bt214.2 bt214.1).bind fun bt216 => ((shapesearchkeep_Src_Range.f bt211.1 bt216.2 2 (mn (bt216.1.length : Int) 12)).bind fun bt220 => ((shapesearchkeep_Mod.f (wrap64 (a1)) (wrap64 ((wrap64 ((bt216.1.length : Int) - bt220.1)) + 1))).bind fun t222 => (if 0 ≤ t222 then (if t222 ≤ (wrap64 (t222 + bt220.1)) then (if (wrap64 (t222 + bt220.1)) ≤ (bt216.1.length : Int) then ((some ((bt216.1.take ((wrap64 (t222 + bt220.1)) : Int).toNat).drop (t222 : Int).toNat : List Int)).bind fun y223 => ((euclid_Profile.f k y223 bt216.1).bind fun bt227 => (if bt227.2 = 0 then (if (bt227.1.length : Int) = (wrap64 ((wrap64 ((bt216.1.length : Int) - bt220.1)) + 1)) then (if t222 < (bt227.1.length : Int) then (if (rd bt227.1 t222) = 0 then (shapesearchlaw12_EuclidProfiles.l0 k bt216.1 bt220.1 y223 bt227.1 (bt227.1.length : Int) 0) else (some false)) else (none)) else (some false)) else (some false)))) else (none)) else (none)) else (none))))))
theorem shapesearchlaw12_EuclidProfiles.mono_l : ∀ k, (∀ y0 y1 y2 y3 y4 y5, LeO (shapesearchlaw12_EuclidProfiles.l0 k y0 y1 y2 y3 y4 y5) (shapesearchlaw12_EuclidProfiles.l0 (k + 1) y0 y1 y2 y3 y4 y5))
  | 0 => fun _ _ _ _ _ _ r h => by simp [shapesearchlaw12_EuclidProfiles.l0] at h
  | k + 1 => by
    have ih0 := shapesearchlaw12_EuclidProfiles.mono_l k
    · intro y0 y1 y2 y3 y4 y5
      unfold shapesearchlaw12_EuclidProfiles.l0
      repeat' first
      | (with_reducible exact ih0 _ _ _ _ _ _)
      | (with_reducible exact euclid_Distance.mono _ _ _)
      | (with_reducible exact euclid_Profile.mono _ _ _)
      | (with_reducible exact shapesearchkeep_Src_List.mono _ _ _ _)
      | (with_reducible exact shapesearchlaw12_awake.mono _)
      | (with_reducible exact LeO.refl _)
      | (with_reducible exact LeO.none _)
      | (with_reducible refine LeO.ite ?_ ?_)
      | (with_reducible refine LeO.bind ?_ (fun _ => ?_))
      | exact ih0 _ _ _ _ _ _
      | exact euclid_Distance.mono _ _ _
      | exact euclid_Profile.mono _ _ _
      | exact shapesearchkeep_Src_List.mono _ _ _ _
      | exact shapesearchlaw12_awake.mono _
      | exact LeO.none _
      | refine LeO.ite ?_ ?_
      | refine LeO.bind ?_ (fun _ => ?_)
theorem shapesearchlaw12_EuclidProfiles.mono : ∀ a0 a1 k, LeO (shapesearchlaw12_EuclidProfiles.f k a0 a1) (shapesearchlaw12_EuclidProfiles.f (k + 1) a0 a1) := by
  intro a0 a1 k
  have ih0 := shapesearchlaw12_EuclidProfiles.mono_l k
  unfold shapesearchlaw12_EuclidProfiles.f
  repeat' first
      | (with_reducible exact ih0 _ _ _ _ _ _)
      | (with_reducible exact euclid_Distance.mono _ _ _)
      | (with_reducible exact euclid_Profile.mono _ _ _)
      | (with_reducible exact shapesearchkeep_Src_List.mono _ _ _ _)
      | (with_reducible exact shapesearchlaw12_awake.mono _)
      | (with_reducible exact LeO.refl _)
      | (with_reducible exact LeO.none _)
      | (with_reducible refine LeO.ite ?_ ?_)
      | (with_reducible refine LeO.bind ?_ (fun _ => ?_))
      | exact ih0 _ _ _ _ _ _
      | exact euclid_Distance.mono _ _ _
      | exact euclid_Profile.mono _ _ _
      | exact shapesearchkeep_Src_List.mono _ _ _ _
      | exact shapesearchlaw12_awake.mono _
      | exact LeO.none _
      | refine LeO.ite ?_ ?_
      | refine LeO.bind ?_ (fun _ => ?_)
set_option maxHeartbeats 8000000 in
set_option maxRecDepth 100000 in
theorem shapesearchlaw12_EuclidProfiles.calls (k : Nat) (A0 : Option Addr) (c0 : Nat) (l0 : List Int) (a1 : Int) (r : Bool) (w : World) (hr0 : Kd.C (Kd.int .i64) w A0 l0.length l0) (hc0 : l0.length ≤ c0) (h : shapesearchlaw12_EuclidProfiles.f k l0 a1 = some r) :
    Calls Try.prog 7 #[.slice A0 l0.length c0, .int .u8 a1] w fun e w' => e = .returned (.bool r) ∧ Below w.heap.size w w' := by
  have HR0 := Aside0.mk hr0
  have HC0 := Aside0.mk hc0
  clear hr0 hc0
  have HB := Aside0.mk (Below.refl w.heap.size w)
  have H : ((shapesearchkeep_New.f l0).bind fun bt211 => ((shapesearchkeep_Src_Range.f bt211.1 bt211.2 2 40).bind fun bt214 => ((shapesearchkeep_Src_List.f k bt211.1 bt214.2 bt214.1).bind fun bt216 => ((shapesearchkeep_Src_Range.f bt211.1 bt216.2 2 (mn (bt216.1.length : Int) 12)).bind fun bt220 => ((shapesearchkeep_Mod.f (wrap64 (a1)) (wrap64 ((wrap64 ((bt216.1.length : Int) - bt220.1)) + 1))).bind fun t222 => (if 0 ≤ t222 then (if t222 ≤ (wrap64 (t222 + bt220.1)) then (if (wrap64 (t222 + bt220.1)) ≤ (bt216.1.length : Int) then ((some ((bt216.1.take ((wrap64 (t222 + bt220.1)) : Int).toNat).drop (t222 : Int).toNat : List Int)).bind fun y223 => ((euclid_Profile.f k y223 bt216.1).bind fun bt227 => (if bt227.2 = 0 then (if (bt227.1.length : Int) = (wrap64 ((wrap64 ((bt216.1.length : Int) - bt220.1)) + 1)) then (if t222 < (bt227.1.length : Int) then (if (rd bt227.1 t222) = 0 then (shapesearchlaw12_EuclidProfiles.l0 k bt216.1 bt220.1 y223 bt227.1 (bt227.1.length : Int) 0) else (some false)) else (none)) else (some false)) else (some false)))) else (none)) else (none)) else (none))))))) = some r := h
  clear h
  replace H := Option.bind_eq_some_iff.mp H
  obtain ⟨⟨t211, t212⟩, A30, H⟩ := H
  replace H : ((shapesearchkeep_Src_Range.f t211 t212 2 40).bind fun bt214 => ((shapesearchkeep_Src_List.f k t211 bt214.2 bt214.1).bind fun bt216 => ((shapesearchkeep_Src_Range.f t211 bt216.2 2 (mn (bt216.1.length : Int) 12)).bind fun bt220 => ((shapesearchkeep_Mod.f (wrap64 (a1)) (wrap64 ((wrap64 ((bt216.1.length : Int) - bt220.1)) + 1))).bind fun t222 => (if 0 ≤ t222 then (if t222 ≤ (wrap64 (t222 + bt220.1)) then (if (wrap64 (t222 + bt220.1)) ≤ (bt216.1.length : Int) then ((some ((bt216.1.take ((wrap64 (t222 + bt220.1)) : Int).toNat).drop (t222 : Int).toNat : List Int)).bind fun y223 => ((euclid_Profile.f k y223 bt216.1).bind fun bt227 => (if bt227.2 = 0 then (if (bt227.1.length : Int) = (wrap64 ((wrap64 ((bt216.1.length : Int) - bt220.1)) + 1)) then (if t222 < (bt227.1.length : Int) then (if (rd bt227.1 t222) = 0 then (shapesearchlaw12_EuclidProfiles.l0 k bt216.1 bt220.1 y223 bt227.1 (bt227.1.length : Int) 0) else (some false)) else (none)) else (some false)) else (some false)))) else (none)) else (none)) else (none)))))) = some r := H
  have A3 := Aside0.mk A30
  clear A30
  replace H := Option.bind_eq_some_iff.mp H
  obtain ⟨⟨t214, t215⟩, A40, H⟩ := H
  replace H : ((shapesearchkeep_Src_List.f k t211 t215 t214).bind fun bt216 => ((shapesearchkeep_Src_Range.f t211 bt216.2 2 (mn (bt216.1.length : Int) 12)).bind fun bt220 => ((shapesearchkeep_Mod.f (wrap64 (a1)) (wrap64 ((wrap64 ((bt216.1.length : Int) - bt220.1)) + 1))).bind fun t222 => (if 0 ≤ t222 then (if t222 ≤ (wrap64 (t222 + bt220.1)) then (if (wrap64 (t222 + bt220.1)) ≤ (bt216.1.length : Int) then ((some ((bt216.1.take ((wrap64 (t222 + bt220.1)) : Int).toNat).drop (t222 : Int).toNat : List Int)).bind fun y223 => ((euclid_Profile.f k y223 bt216.1).bind fun bt227 => (if bt227.2 = 0 then (if (bt227.1.length : Int) = (wrap64 ((wrap64 ((bt216.1.length : Int) - bt220.1)) + 1)) then (if t222 < (bt227.1.length : Int) then (if (rd bt227.1 t222) = 0 then (shapesearchlaw12_EuclidProfiles.l0 k bt216.1 bt220.1 y223 bt227.1 (bt227.1.length : Int) 0) else (some false)) else (none)) else (some false)) else (some false)))) else (none)) else (none)) else (none))))) = some r := H
  have A4 := Aside0.mk A40
  clear A40
  replace H := Option.bind_eq_some_iff.mp H
  obtain ⟨⟨t216, t219⟩, A50, H⟩ := H
  replace H : ((shapesearchkeep_Src_Range.f t211 t219 2 (mn (t216.length : Int) 12)).bind fun bt220 => ((shapesearchkeep_Mod.f (wrap64 (a1)) (wrap64 ((wrap64 ((t216.length : Int) - bt220.1)) + 1))).bind fun t222 => (if 0 ≤ t222 then (if t222 ≤ (wrap64 (t222 + bt220.1)) then (if (wrap64 (t222 + bt220.1)) ≤ (t216.length : Int) then ((some ((t216.take ((wrap64 (t222 + bt220.1)) : Int).toNat).drop (t222 : Int).toNat : List Int)).bind fun y223 => ((euclid_Profile.f k y223 t216).bind fun bt227 => (if bt227.2 = 0 then (if (bt227.1.length : Int) = (wrap64 ((wrap64 ((t216.length : Int) - bt220.1)) + 1)) then (if t222 < (bt227.1.length : Int) then (if (rd bt227.1 t222) = 0 then (shapesearchlaw12_EuclidProfiles.l0 k t216 bt220.1 y223 bt227.1 (bt227.1.length : Int) 0) else (some false)) else (none)) else (some false)) else (some false)))) else (none)) else (none)) else (none)))) = some r := H
  have A5 := Aside0.mk A50
  clear A50
  obtain ⟨ji6, hji6⟩ : ∃ j_ : Int, (mn (t216.length : Int) 12) = j_ := ⟨_, rfl⟩
  replace H : ((shapesearchkeep_Src_Range.f t211 t219 2 (ji6)).bind fun bt220 => ((shapesearchkeep_Mod.f (wrap64 (a1)) (wrap64 ((wrap64 ((t216.length : Int) - bt220.1)) + 1))).bind fun t222 => (if 0 ≤ t222 then (if t222 ≤ (wrap64 (t222 + bt220.1)) then (if (wrap64 (t222 + bt220.1)) ≤ (t216.length : Int) then ((some ((t216.take ((wrap64 (t222 + bt220.1)) : Int).toNat).drop (t222 : Int).toNat : List Int)).bind fun y223 => ((euclid_Profile.f k y223 t216).bind fun bt227 => (if bt227.2 = 0 then (if (bt227.1.length : Int) = (wrap64 ((wrap64 ((t216.length : Int) - bt220.1)) + 1)) then (if t222 < (bt227.1.length : Int) then (if (rd bt227.1 t222) = 0 then (shapesearchlaw12_EuclidProfiles.l0 k t216 bt220.1 y223 bt227.1 (bt227.1.length : Int) 0) else (some false)) else (none)) else (some false)) else (some false)))) else (none)) else (none)) else (none)))) = some r := by first | (rw [hji6] at H; exact H) | (simp only [hji6] at H ⊢; exact H)
  (try rw [hji6] at A3)
  (try rw [hji6] at A4)
  (try rw [hji6] at A5)
  (try (have hji6h : ji6 ≤ 12 := by (rw [← hji6]; unfold mn; (repeat' split) <;> omega)))
  (try (have hji6g : ji6 ≤ 64 := by omega))
  (try (have hji6l : 0 ≤ ji6 := by (rw [← hji6]; unfold mn; (repeat' split) <;> omega)))
  (try (have hji6m : 0 ≤ ji6 := by omega))
  have hji6_ : (if 12 < (t216.length : Int) then 12 else (t216.length : Int)) = ji6 := hji6
  replace H := Option.bind_eq_some_iff.mp H
  obtain ⟨⟨t220, t221⟩, A70, H⟩ := H
  replace H : ((shapesearchkeep_Mod.f (wrap64 (a1)) (wrap64 ((wrap64 ((t216.length : Int) - t220)) + 1))).bind fun t222 => (if 0 ≤ t222 then (if t222 ≤ (wrap64 (t222 + t220)) then (if (wrap64 (t222 + t220)) ≤ (t216.length : Int) then ((some ((t216.take ((wrap64 (t222 + t220)) : Int).toNat).drop (t222 : Int).toNat : List Int)).bind fun y223 => ((euclid_Profile.f k y223 t216).bind fun bt227 => (if bt227.2 = 0 then (if (bt227.1.length : Int) = (wrap64 ((wrap64 ((t216.length : Int) - t220)) + 1)) then (if t222 < (bt227.1.length : Int) then (if (rd bt227.1 t222) = 0 then (shapesearchlaw12_EuclidProfiles.l0 k t216 t220 y223 bt227.1 (bt227.1.length : Int) 0) else (some false)) else (none)) else (some false)) else (some false)))) else (none)) else (none)) else (none))) = some r := H
  have A7 := Aside0.mk A70
  clear A70
  replace H := Option.bind_eq_some_iff.mp H
  obtain ⟨t222, A80, H⟩ := H
  replace H : (if 0 ≤ t222 then (if t222 ≤ (wrap64 (t222 + t220)) then (if (wrap64 (t222 + t220)) ≤ (t216.length : Int) then ((some ((t216.take ((wrap64 (t222 + t220)) : Int).toNat).drop (t222 : Int).toNat : List Int)).bind fun y223 => ((euclid_Profile.f k y223 t216).bind fun bt227 => (if bt227.2 = 0 then (if (bt227.1.length : Int) = (wrap64 ((wrap64 ((t216.length : Int) - t220)) + 1)) then (if t222 < (bt227.1.length : Int) then (if (rd bt227.1 t222) = 0 then (shapesearchlaw12_EuclidProfiles.l0 k t216 t220 y223 bt227.1 (bt227.1.length : Int) 0) else (some false)) else (none)) else (some false)) else (some false)))) else (none)) else (none)) else (none)) = some r := H
  have A8 := Aside0.mk A80
  clear A80
  by_cases c9 : 0 ≤ t222
  · rw [if_pos c9] at H
    have c9b0 := eq_true c9
    have c9b1 : decide (0 ≤ t222) = true := decide_eq_true c9
    clear c9
    by_cases c10 : t222 ≤ (wrap64 (t222 + t220))
    · rw [if_pos c10] at H
      have c10b0 := eq_true c10
      have c10b1 : decide (t222 ≤ (wrap64 (t222 + t220))) = true := decide_eq_true c10
      by_cases c11 : (wrap64 (t222 + t220)) ≤ (t216.length : Int)
      · rw [if_pos c11] at H
        have c11b0 := eq_true c11
        have c11b1 : decide ((wrap64 (t222 + t220)) ≤ (t216.length : Int)) = true := decide_eq_true c11
        obtain ⟨y223, hy223⟩ : ∃ y_ : List Int, y_ = ((t216.take ((wrap64 (t222 + t220)) : Int).toNat).drop (t222 : Int).toNat) := ⟨_, rfl⟩
        replace H : ((euclid_Profile.f k y223 t216).bind fun bt227 => (if bt227.2 = 0 then (if (bt227.1.length : Int) = (wrap64 ((wrap64 ((t216.length : Int) - t220)) + 1)) then (if t222 < (bt227.1.length : Int) then (if (rd bt227.1 t222) = 0 then (shapesearchlaw12_EuclidProfiles.l0 k t216 t220 y223 bt227.1 (bt227.1.length : Int) 0) else (some false)) else (none)) else (some false)) else (some false))) = some r := by first | (rw [hy223]; with_reducible exact H) | (have H2_ := (Option.bind_some _ _).symm.trans H; rw [hy223]; with_reducible exact H2_) | (have H2_ := (Option.bind_some _ _).symm.trans H; with_reducible exact H2_) | with_reducible exact H | (rw [hy223]; exact H) | exact H
        have Ny223 := Aside0.mk hy223
        clear hy223
        replace H := Option.bind_eq_some_iff.mp H
        obtain ⟨⟨t227, t228⟩, A120, H⟩ := H
        replace H : (if t228 = 0 then (if (t227.length : Int) = (wrap64 ((wrap64 ((t216.length : Int) - t220)) + 1)) then (if t222 < (t227.length : Int) then (if (rd t227 t222) = 0 then (shapesearchlaw12_EuclidProfiles.l0 k t216 t220 y223 t227 (t227.length : Int) 0) else (some false)) else (none)) else (some false)) else (some false)) = some r := H
        have A12 := Aside0.mk A120
        clear A120
        by_cases c13 : t228 = 0
        · rw [if_pos c13] at H
          have c13b0 : (t228 == 0) = true := beq_iff_eq.mpr c13
          have c13b1 : (t228 != 0) = false := bne_eq_false_iff_eq.mpr c13
          clear c13
          by_cases c14 : (t227.length : Int) = (wrap64 ((wrap64 ((t216.length : Int) - t220)) + 1))
          · rw [if_pos c14] at H
            have c14b0 : ((t227.length : Int) == (wrap64 ((wrap64 ((t216.length : Int) - t220)) + 1))) = true := beq_iff_eq.mpr c14
            have c14b1 : ((t227.length : Int) != (wrap64 ((wrap64 ((t216.length : Int) - t220)) + 1))) = false := bne_eq_false_iff_eq.mpr c14
            clear c14
            by_cases c15 : t222 < (t227.length : Int)
            · rw [if_pos c15] at H
              have c15b0 : decide (t222 < (t227.length : Int)) = true := decide_eq_true c15
              clear c15
              by_cases c16 : (rd t227 t222) = 0
              · rw [if_pos c16] at H
                have c16b0 : ((rd t227 t222) == 0) = true := beq_iff_eq.mpr c16
                have c16b1 : ((rd t227 t222) != 0) = false := bne_eq_false_iff_eq.mpr c16
                clear c16
                have H' := Aside0.mk H
                clear H
                go_enter Try.func7, Try.ntmps7
                go_wp2_with (first | ((with_reducible refine gate_callee (f := 9) rfl ?_); refine goesL_ (some 16) rfl rfl Try.func9 (by kernel_rfl) rfl #[.slice A0 l0.length c0] rfl (by (try simp only [List.map_toArray, List.map_cons, List.map_nil]); first | done | rfl | (simp only [List.length_drop, List.length_take]; rfl)) ?_; (with_reducible refine (shapesearchkeep_New.calls _ _ l0 t211 t212 w _ ?side1 ?side2 ?side3 A3.out).mono ?_); (case side1 => repeat (first | (with_reducible first | exact HB.out | apply below_alloc | apply pw_below_drewN | apply below_drew1) | exact HB.out)); (case side2 => exact HR0.out); (case side3 => exact HC0.out); rintro e w17 ⟨g213, rfl, hi, hb, hb2⟩; refine ⟨_, rfl, ?_⟩; have n0_ := Aside0.mk (hb); have n1_ := Aside0.mk (hi); clear HB; have HB := n0_; have HI213 := n1_; clear n0_ n1_; (try clear hb); (try clear hb2); (try clear hk); (try clear hi)) | ((with_reducible refine gate_callee (f := 21) rfl ?_); refine goesL_ (some 19) rfl rfl Try.func21 (by kernel_rfl) rfl #[.pointer (some ⟨g213, 0, none⟩), .int .i64 2, .int .i64 40] rfl (by (try simp only [List.map_toArray, List.map_cons, List.map_nil]); first | done | rfl | (simp only [List.length_drop, List.length_take]; rfl)) ?_; (with_reducible refine (shapesearchkeep_Src_Range.calls g213 t211 t212 2 40 t214 t215 w _ ?side1 ?side2 A4.out).mono ?_); (case side1 => repeat (first | (with_reducible first | exact HI213.out | apply IsS56.alloc | apply IsS56.drewN | apply IsS56.drew | apply IsS56.set_1) | exact HI213.out)); (case side2 => repeat (first | (with_reducible first | exact HB.out | apply below_alloc | apply pw_below_drewN | apply below_drew1 | refine below_set ?_ (IsS56.ge HI213.out)) | exact HB.out)); rintro e w18 ⟨rfl, hi, hb, hk⟩; refine ⟨_, rfl, ?_⟩; have n0_ := Aside0.mk (hb); have n1_ := Aside0.mk (hi); clear HB; clear HI213; have HB := n0_; have HI213 := n1_; clear n0_ n1_; (try clear hb); (try clear hb2); (try clear hk); (try clear hi)) | ((with_reducible refine gate_callee (f := 20) rfl ?_); refine goesL_ (some 20) rfl rfl Try.func20 (by kernel_rfl) rfl #[.pointer (some ⟨g213, 0, none⟩), .int .i64 t214] rfl (by (try simp only [List.map_toArray, List.map_cons, List.map_nil]); first | done | rfl | (simp only [List.length_drop, List.length_take]; rfl)) ?_; (with_reducible refine (shapesearchkeep_Src_List.calls k g213 t211 t215 t214 t216 t219 w _ ?side1 ?side2 A5.out).mono ?_); (case side1 => repeat (first | (with_reducible first | exact HI213.out | apply IsS56.alloc | apply IsS56.drewN | apply IsS56.drew | apply IsS56.set_1) | exact HI213.out)); (case side2 => repeat (first | (with_reducible first | exact HB.out | apply below_alloc | apply pw_below_drewN | apply below_drew1 | refine below_set ?_ (IsS56.ge HI213.out)) | exact HB.out)); rintro e w19 ⟨v217, rfl, ho0, hi, hb, hk⟩; refine ⟨_, rfl, ?_⟩; have n0_ := Aside0.mk (Kd.R_lower ho0 (below_size (by repeat (first | (with_reducible first | exact HB.out | apply below_alloc | apply pw_below_drewN | apply below_drew1 | refine below_set ?_ (IsS56.ge HI213.out)) | exact HB.out)))); have n1_ := Aside0.mk (hb); have n2_ := Aside0.mk (hi); clear HB; clear HI213; have HO218 := n0_; have HB := n1_; have HI213 := n2_; clear n0_ n1_ n2_; (try clear hb); (try clear hb2); (try clear hk); (try clear hi); (try clear ho0); obtain ⟨Ao20, co20, eo20⟩ := Kd.R_slice HO218.out; subst eo20) | ((with_reducible refine gate_callee (f := 21) rfl ?_); refine goesL_ (some 25) rfl rfl Try.func21 (by kernel_rfl) rfl #[.pointer (some ⟨g213, 0, none⟩), .int .i64 2, .int .i64 ji6] rfl (by (try simp only [List.map_toArray, List.map_cons, List.map_nil]); first | done | (simp only [hji6]; rfl) | rfl | (simp only [List.length_drop, List.length_take]; rfl)) ?_; (with_reducible refine (shapesearchkeep_Src_Range.calls g213 t211 t219 2 ji6 t220 t221 w _ ?side1 ?side2 A7.out).mono ?_); (case side1 => repeat (first | (with_reducible first | exact HI213.out | apply IsS56.alloc | apply IsS56.drewN | apply IsS56.drew | apply IsS56.set_1) | exact HI213.out)); (case side2 => repeat (first | (with_reducible first | exact HB.out | apply below_alloc | apply pw_below_drewN | apply below_drew1 | refine below_set ?_ (IsS56.ge HI213.out)) | exact HB.out)); rintro e w21 ⟨rfl, hi, hb, hk⟩; refine ⟨_, rfl, ?_⟩; have n0_ := Aside0.mk (Kd.R_mono (Kd.R_keep (IsS56.apart (show IsS56 w _ g213 t211 t219 from by repeat (first | (with_reducible first | exact HI213.out | apply IsS56.alloc | apply IsS56.drewN | apply IsS56.drew | apply IsS56.set_1) | exact HI213.out)) (by (with_reducible repeat (first | apply Kd.R_alloc | apply Kd.R_drewN | apply Kd.R_drew)); exact HO218.out) (by decide)) hk (fun _ h => h.2)) (fun _ h => h.1)); have n1_ := Aside0.mk (hb); have n2_ := Aside0.mk (hi); clear HO218; clear HB; clear HI213; have HO218 := n0_; have HB := n1_; have HI213 := n2_; clear n0_ n1_ n2_; (try clear hb); (try clear hb2); (try clear hk); (try clear hi)) | ((with_reducible refine gate_callee (f := 18) rfl ?_); refine goesL_ (some 33) rfl rfl Try.func18 (by kernel_rfl) rfl #[.int .i64 (wrap64 (a1)), .int .i64 (wrap64 ((wrap64 ((t216.length : Int) - t220)) + 1))] rfl (by (try simp only [List.map_toArray, List.map_cons, List.map_nil]); first | done | rfl | (simp only [List.length_drop, List.length_take]; rfl)) ?_; (with_reducible refine (shapesearchkeep_Mod.calls (wrap64 (a1)) (wrap64 ((wrap64 ((t216.length : Int) - t220)) + 1)) t222 _ A8.out).mono ?_); rintro e w' ⟨rfl, ⟨nd, rfl⟩⟩; refine ⟨_, rfl, ?_⟩; have q22 : ((wrap64 (t222 + t220)) : Int) ≤ ((t216.length : Int) : Int) := of_decide_eq_true (by first | (with_reducible assumption) | assumption); obtain ⟨i022, hi022, _, hsz22, _⟩ := info_parts info3; have hroom22 : t216.length ≤ co20 := (Kd.R_reads' HO218.out).2.1; have hC22 : Kd.C (Kd.int .i64) _ Ao20 t216.length t216 := (Kd.R_reads' HO218.out).2.2; have ql22 : (t222 : Int) ≤ ((wrap64 (t222 + t220)) : Int) := of_decide_eq_true (by first | (with_reducible assumption) | assumption); have q022 : (0 : Int) ≤ (t222 : Int) := of_decide_eq_true (by first | (with_reducible assumption) | assumption); have hcut22 := cut_mid (P := Try.prog) 22 3 .i64 .i64 Try.underlying22 hi022 1 hsz22 Ao20 t216.length co20 t222 (wrap64 (t222 + t220)) q022 ql22 q22 hroom22; have hr22 := Kd.C_mid (lo := (t222 : Int).toNat) (hi := ((wrap64 (t222 + t220)) : Int).toNat) (c := co20) hC22 (by omega) (by omega) hroom22; obtain ⟨A22, hA22⟩ : ∃ A1, A1 = (if co20 = (t222 : Int).toNat then Ao20 else (Ao20 : Option Addr).map (·.add ((t222 : Int).toNat * 1))) := ⟨_, rfl⟩; obtain ⟨c22, hc22⟩ : ∃ c1, c1 = co20 - (t222 : Int).toNat := ⟨_, rfl⟩; have hy22 : y223.length = ((wrap64 (t222 + t220)) : Int).toNat - (t222 : Int).toNat := (by rw [Ny223.out, List.length_drop, List.length_take] <;> omega); rw [show ((t216).take ((wrap64 (t222 + t220)) : Int).toNat).drop (t222 : Int).toNat = y223 from Ny223.out.symm] at hr22; replace hr22 : Kd.C (Kd.int .i64) _ A22 y223.length y223 := (by rw [hA22]; exact hr22); rw [← hy22, ← hA22, ← hc22] at hcut22; have HR226 := Aside0.mk hr22; have HC226 := Aside0.mk (show y223.length ≤ c22 from by rw [hy22, hc22]; exact Nat.sub_le_sub_right (Nat.le_trans (by omega) hroom22) _); clear hr22 hC22 hroom22 hi022 hsz22 hc22; have KY22 := Aside0.mk hy22; have KA22 := Aside0.mk hA22; clear hy22 hA22; have KL22 := Aside0.mk (show ((wrap64 (t222 + t220)) : Int).toNat ≤ t216.length from by omega); have KM22 := Aside0.mk (show (t222 : Int).toNat ≤ ((wrap64 (t222 + t220)) : Int).toNat from by omega); replace q22 := eq_true q22) | ((with_reducible refine gate_callee (f := 22) rfl ?_); refine goesL_ (some 43) rfl rfl Try.func22 (by kernel_rfl) rfl #[.slice A22 y223.length c22, .slice Ao20 t216.length co20] rfl (by (try simp only [List.map_toArray, List.map_cons, List.map_nil]); first | done | rfl | (simp only [List.length_drop, List.length_take]; rfl)) ?_; (with_reducible refine (euclid_Profile.calls k _ _ y223 _ _ t216 t227 t228 _ ?side1 ?side2 ?side3 ?side4 A12.out).mono ?_); (case side1 => repeat (first | exact (by repeat (first | (with_reducible exact HR226.out) | (with_reducible refine Kd.C_alloc ?_ _) | (with_reducible refine Kd.C_drewN ?_ _) | (with_reducible refine Kd.C_drew ?_) | exact HR226.out)) | (with_reducible refine Kd.C_alloc ?_ _) | (with_reducible refine Kd.C_drewN ?_ _) | (with_reducible refine Kd.C_drew ?_))); (case side2 => exact HC226.out); (case side3 => repeat (first | exact (Kd.R_reads' HO218.out).2.2 | (with_reducible refine Kd.C_alloc ?_ _) | (with_reducible refine Kd.C_drewN ?_ _) | (with_reducible refine Kd.C_drew ?_))); (case side4 => exact (Kd.R_reads' HO218.out).2.1); rintro e w23 ⟨v229, rfl, ho0, hb⟩; refine ⟨_, rfl, ?_⟩; have n0_ := Aside0.mk (Kd.R_elder' (by (with_reducible repeat (first | apply Kd.R_alloc | apply Kd.R_drewN | apply Kd.R_drew)); exact HO218.out) (Kd.R_base ho0) hb); have n1_ := Aside0.mk (Kd.R_lower (Kd.R_new' ho0 (Kd.R_lt (by (with_reducible repeat (first | apply Kd.R_alloc | apply Kd.R_drewN | apply Kd.R_drew)); exact HO218.out))) (below_size (by repeat (first | (with_reducible first | exact HB.out | apply below_alloc | apply pw_below_drewN | apply below_drew1 | refine below_set ?_ (IsS56.ge HI213.out)) | exact HB.out)))); have n2_ := Aside0.mk (IsS56.below (by repeat (first | (with_reducible first | exact HI213.out | apply IsS56.alloc | apply IsS56.drewN | apply IsS56.drew | apply IsS56.set_1) | exact HI213.out)) hb); have n3_ := Aside0.mk (Kd.C_below (by repeat (first | (with_reducible exact HR226.out) | (with_reducible refine Kd.C_alloc ?_ _) | (with_reducible refine Kd.C_drewN ?_ _) | (with_reducible refine Kd.C_drew ?_) | exact HR226.out)) hb); have n4_ := Aside0.mk (below_step (by repeat (first | (with_reducible first | exact HB.out | apply below_alloc | apply pw_below_drewN | apply below_drew1 | refine below_set ?_ (IsS56.ge HI213.out)) | exact HB.out)) hb); clear HO218; clear HI213; clear HR226; clear HB; have HO218 := n0_; have HO230 := n1_; have HI213 := n2_; have HR226 := n3_; have HB := n4_; clear n0_ n1_ n2_ n3_ n4_; (try clear hb); (try clear hb2); (try clear hk); (try clear hi); (try clear ho0); obtain ⟨Ao24, co24, eo24⟩ := Kd.R_slice HO230.out; subst eo24; have p231 : 0 ≤ (t222 : Int) := of_decide_eq_true (by first | (with_reducible assumption) | assumption); have q231 : t222 < (t227.length : Int) := of_decide_eq_true (by first | (with_reducible assumption) | assumption); obtain ⟨ad231, e231, hx231_0⟩ := Kd.at_int (Kd.R_reads' HO230.out).2.2 t222 p231 q231; cases e231; replace p231 := eq_true p231; replace q231 := eq_true q231))
                go_loopg [67] k (fun kq v67 w' => ∃ (x67_1 : Int), v67 = .int .i64 x67_1 ∧ Aside0 (shapesearchlaw12_EuclidProfiles.l0 kq t216 t220 y223 t227 (t227.length : Int) x67_1 = some r) ∧ Aside0 (kq ≤ k) ∧ Aside0 (Kd.R (Kd.int .i64) 3 w' w.heap.size (fun k_ => some k_ ≠ ((.slice (some ad231) t227.length co24) : Value).ownBlock) (.slice Ao20 t216.length co20) t216) ∧ Aside0 (Kd.R (Kd.int .i64) 3 w' w.heap.size (fun k_ => some k_ ≠ ((.slice Ao20 t216.length co20) : Value).ownBlock) (.slice (some ad231) t227.length co24) t227) ∧ Aside0 (Kd.C (Kd.int .i64) w' A22 y223.length y223) ∧ Aside0 (Below w.heap.size w w'))
                case atStart => exact ⟨(0), (by first | rfl | (simp; done) | (simp [*]; done)), H', ⟨Nat.le_refl _⟩, ⟨by (with_reducible repeat (first | apply Kd.R_alloc | apply Kd.R_drewN | apply Kd.R_drew)); exact Kd.R_mono HO218.out (fun _ hk => hk.2)⟩, ⟨by (with_reducible repeat (first | apply Kd.R_alloc | apply Kd.R_drewN | apply Kd.R_drew)); exact Kd.R_mono HO230.out (fun _ hk => hk.2)⟩, ⟨by repeat (first | (with_reducible exact HR226.out) | (with_reducible refine Kd.C_alloc ?_ _) | (with_reducible refine Kd.C_drewN ?_ _) | (with_reducible refine Kd.C_drew ?_) | exact HR226.out)⟩, ⟨by repeat (first | (with_reducible first | exact HB.out | apply below_alloc | apply pw_below_drewN | apply below_drew1 | refine below_set ?_ (IsS56.ge HI213.out)) | exact HB.out)⟩⟩
                case round =>
                  clear H'
                  try clear c1
                  try clear c2
                  try clear p2
                  try clear q2
                  try clear hx2
                  try clear p6
                  try clear c7
                  try clear c9
                  try clear c9b0
                  try clear c9b1
                  try clear c10
                  try clear c10b0
                  try clear c10b1
                  try clear c11
                  try clear c11b0
                  try clear c11b1
                  try clear c13
                  try clear c13b0
                  try clear c13b1
                  try clear c14
                  try clear c14b0
                  try clear c14b1
                  try clear c15
                  try clear c15b0
                  try clear c16
                  try clear c16b0
                  try clear c16b1
                  try clear c18
                  try clear c20
                  try clear c21
                  try clear c22
                  try clear q22
                  try clear p23
                  try clear q23
                  try clear hx23
                  try clear hx231_0
                  try clear p231
                  try clear q022
                  try clear q22
                  try clear q231
                  obtain ⟨x67_1, rfl, HA, HK1, HO_6, HO_10, HR226, HB⟩ := hrel
                  cases gk with
                  | zero => exact absurd HA.out (by simp [shapesearchlaw12_EuclidProfiles.l0])
                  | succ k1 =>
                    have H := HA.out
                    clear HA
                    simp only [shapesearchlaw12_EuclidProfiles.l0] at H
                    by_cases c25 : x67_1 < (t227.length : Int)
                    · rw [if_pos c25] at H
                      have c25b0 : decide (x67_1 < (t227.length : Int)) = true := decide_eq_true c25
                      clear c25
                      by_cases c26 : 0 ≤ x67_1
                      · rw [if_pos c26] at H
                        have c26b0 := eq_true c26
                        have c26b1 : decide (0 ≤ x67_1) = true := decide_eq_true c26
                        clear c26
                        by_cases c27 : x67_1 ≤ (wrap64 (x67_1 + t220))
                        · rw [if_pos c27] at H
                          have c27b0 := eq_true c27
                          have c27b1 : decide (x67_1 ≤ (wrap64 (x67_1 + t220))) = true := decide_eq_true c27
                          by_cases c28 : (wrap64 (x67_1 + t220)) ≤ (t216.length : Int)
                          · rw [if_pos c28] at H
                            have c28b0 := eq_true c28
                            have c28b1 : decide ((wrap64 (x67_1 + t220)) ≤ (t216.length : Int)) = true := decide_eq_true c28
                            obtain ⟨y232, hy232⟩ : ∃ y_ : List Int, y_ = ((t216.take ((wrap64 (x67_1 + t220)) : Int).toNat).drop (x67_1 : Int).toNat) := ⟨_, rfl⟩
                            replace H : ((euclid_Distance.f k1 y223 y232).bind fun bt236 => (if bt236.2 = 0 then (if x67_1 < (t227.length : Int) then (if bt236.1 = (rd t227 x67_1) then (shapesearchlaw12_EuclidProfiles.l0 k1 t216 t220 y223 t227 (t227.length : Int) (wrap64 (x67_1 + 1))) else (some false)) else (none)) else (some false))) = some r := by first | (rw [hy232]; with_reducible exact H) | (have H2_ := (Option.bind_some _ _).symm.trans H; rw [hy232]; with_reducible exact H2_) | (have H2_ := (Option.bind_some _ _).symm.trans H; with_reducible exact H2_) | with_reducible exact H | (rw [hy232]; exact H) | exact H
                            have Ny232 := Aside0.mk hy232
                            clear hy232
                            replace H := Option.bind_eq_some_iff.mp H
                            obtain ⟨⟨t236, t237⟩, A290, H⟩ := H
                            replace H : (if t237 = 0 then (if x67_1 < (t227.length : Int) then (if t236 = (rd t227 x67_1) then (shapesearchlaw12_EuclidProfiles.l0 k1 t216 t220 y223 t227 (t227.length : Int) (wrap64 (x67_1 + 1))) else (some false)) else (none)) else (some false)) = some r := H
                            have A29 := Aside0.mk A290
                            clear A290
                            by_cases c30 : t237 = 0
                            · rw [if_pos c30] at H
                              have c30b0 : (t237 == 0) = true := beq_iff_eq.mpr c30
                              have c30b1 : (t237 != 0) = false := bne_eq_false_iff_eq.mpr c30
                              clear c30
                              by_cases c31 : x67_1 < (t227.length : Int)
                              · rw [if_pos c31] at H
                                have c31b0 : decide (x67_1 < (t227.length : Int)) = true := decide_eq_true c31
                                clear c31
                                by_cases c32 : t236 = (rd t227 x67_1)
                                · rw [if_pos c32] at H
                                  have c32b0 : (t236 == (rd t227 x67_1)) = true := beq_iff_eq.mpr c32
                                  have c32b1 : (t236 != (rd t227 x67_1)) = false := bne_eq_false_iff_eq.mpr c32
                                  clear c32
                                  have H' := Aside0.mk H
                                  clear H
                                  have q33 : ((wrap64 (x67_1 + t220)) : Int) ≤ ((t216.length : Int) : Int) := of_decide_eq_true (by first | (with_reducible assumption) | assumption)
                                  obtain ⟨i033, hi033, _, hsz33, _⟩ := info_parts info3
                                  have hroom33 : t216.length ≤ co20 := (Kd.R_reads' HO_6.out).2.1
                                  have hC33 : Kd.C (Kd.int .i64) _ Ao20 t216.length t216 := (Kd.R_reads' HO_6.out).2.2
                                  have ql33 : (x67_1 : Int) ≤ ((wrap64 (x67_1 + t220)) : Int) := of_decide_eq_true (by first | (with_reducible assumption) | assumption)
                                  have q033 : (0 : Int) ≤ (x67_1 : Int) := of_decide_eq_true (by first | (with_reducible assumption) | assumption)
                                  have hcut33 := cut_mid (P := Try.prog) 22 3 .i64 .i64 Try.underlying22 hi033 1 hsz33 Ao20 t216.length co20 x67_1 (wrap64 (x67_1 + t220)) q033 ql33 q33 hroom33
                                  have hr33 := Kd.C_mid (lo := (x67_1 : Int).toNat) (hi := ((wrap64 (x67_1 + t220)) : Int).toNat) (c := co20) hC33 (by omega) (by omega) hroom33
                                  obtain ⟨A33, hA33⟩ : ∃ A1, A1 = (if co20 = (x67_1 : Int).toNat then Ao20 else (Ao20 : Option Addr).map (·.add ((x67_1 : Int).toNat * 1))) := ⟨_, rfl⟩
                                  obtain ⟨c33, hc33⟩ : ∃ c1, c1 = co20 - (x67_1 : Int).toNat := ⟨_, rfl⟩
                                  have hy33 : y232.length = ((wrap64 (x67_1 + t220)) : Int).toNat - (x67_1 : Int).toNat := (by rw [Ny232.out, List.length_drop, List.length_take] <;> omega)
                                  rw [show ((t216).take ((wrap64 (x67_1 + t220)) : Int).toNat).drop (x67_1 : Int).toNat = y232 from Ny232.out.symm] at hr33
                                  replace hr33 : Kd.C (Kd.int .i64) _ A33 y232.length y232 := (by rw [hA33]; exact hr33)
                                  rw [← hy33, ← hA33, ← hc33] at hcut33
                                  have HR235 := Aside0.mk hr33
                                  have HC235 := Aside0.mk (show y232.length ≤ c33 from by rw [hy33, hc33]; exact Nat.sub_le_sub_right (Nat.le_trans (by omega) hroom33) _)
                                  clear hr33 hC33 hroom33 hi033 hsz33 hc33
                                  have KY33 := Aside0.mk hy33
                                  have KA33 := Aside0.mk hA33
                                  clear hy33 hA33
                                  have KL33 := Aside0.mk (show ((wrap64 (x67_1 + t220)) : Int).toNat ≤ t216.length from by omega)
                                  have KM33 := Aside0.mk (show (x67_1 : Int).toNat ≤ ((wrap64 (x67_1 + t220)) : Int).toNat from by omega)
                                  replace q33 := eq_true q33
                                  go_wp2_with (first | ((with_reducible refine gate_callee (f := 12) rfl ?_); refine goesL_ (some 78) rfl rfl Try.func12 (by kernel_rfl) rfl #[.slice A22 y223.length c22, .slice A33 y232.length c33] rfl (by (try simp only [List.map_toArray, List.map_cons, List.map_nil]); first | done | rfl | (simp only [List.length_drop, List.length_take]; rfl)) ?_; (with_reducible refine (euclid_Distance.calls k1 _ _ y223 _ _ y232 t236 t237 _ ?side1 ?side2 ?side3 ?side4 A29.out).mono ?_); (case side1 => repeat (first | exact (by repeat (first | (with_reducible exact HR226.out) | (with_reducible refine Kd.C_alloc ?_ _) | (with_reducible refine Kd.C_drewN ?_ _) | (with_reducible refine Kd.C_drew ?_) | exact HR226.out)) | (with_reducible refine Kd.C_alloc ?_ _) | (with_reducible refine Kd.C_drewN ?_ _) | (with_reducible refine Kd.C_drew ?_))); (case side2 => exact HC226.out); (case side3 => repeat (first | exact (by repeat (first | (with_reducible exact HR235.out) | (with_reducible refine Kd.C_alloc ?_ _) | (with_reducible refine Kd.C_drewN ?_ _) | (with_reducible refine Kd.C_drew ?_) | exact HR235.out)) | (with_reducible refine Kd.C_alloc ?_ _) | (with_reducible refine Kd.C_drewN ?_ _) | (with_reducible refine Kd.C_drew ?_))); (case side4 => exact HC235.out); rintro e w' ⟨rfl, ⟨nd, rfl⟩⟩; refine ⟨_, rfl, ?_⟩; have p238 : 0 ≤ (x67_1 : Int) := of_decide_eq_true (by first | (with_reducible assumption) | assumption); have q238 : x67_1 < (t227.length : Int) := of_decide_eq_true (by first | (with_reducible assumption) | assumption); obtain ⟨ad238, e238, hx238_0⟩ := Kd.at_int (Kd.R_reads' HO_10.out).2.2 x67_1 p238 q238; obtain rfl : ad231 = ad238 := (by injection e238); replace p238 := eq_true p238; replace q238 := eq_true q238))
                                  go_roundg k1
                                  case measure => have := HK1.out; omega
                                  case rel => exact ⟨(wrap64 (x67_1 + 1)), (by first | rfl | (simp; done) | (simp [*]; done)), H', ⟨by have := HK1.out; omega⟩, ⟨by (with_reducible repeat (first | apply Kd.R_alloc | apply Kd.R_drewN | apply Kd.R_drew)); exact HO_6.out⟩, ⟨by (with_reducible repeat (first | apply Kd.R_alloc | apply Kd.R_drewN | apply Kd.R_drew)); exact HO_10.out⟩, ⟨by repeat (first | (with_reducible exact HR226.out) | (with_reducible refine Kd.C_alloc ?_ _) | (with_reducible refine Kd.C_drewN ?_ _) | (with_reducible refine Kd.C_drew ?_) | exact HR226.out)⟩, ⟨by repeat (first | (with_reducible first | exact HB.out | apply below_alloc | apply pw_below_drewN | apply below_drew1) | exact HB.out)⟩⟩
                                · rw [if_neg c32] at H
                                  have c32b0 : (t236 == (rd t227 x67_1)) = false := beq_eq_false_iff_ne.mpr c32
                                  have c32b1 : (t236 != (rd t227 x67_1)) = true := bne_iff_ne.mpr c32
                                  obtain rfl := Option.some.inj H
                                  have q34 : ((wrap64 (x67_1 + t220)) : Int) ≤ ((t216.length : Int) : Int) := of_decide_eq_true (by first | (with_reducible assumption) | assumption)
                                  obtain ⟨i034, hi034, _, hsz34, _⟩ := info_parts info3
                                  have hroom34 : t216.length ≤ co20 := (Kd.R_reads' HO_6.out).2.1
                                  have hC34 : Kd.C (Kd.int .i64) _ Ao20 t216.length t216 := (Kd.R_reads' HO_6.out).2.2
                                  have ql34 : (x67_1 : Int) ≤ ((wrap64 (x67_1 + t220)) : Int) := of_decide_eq_true (by first | (with_reducible assumption) | assumption)
                                  have q034 : (0 : Int) ≤ (x67_1 : Int) := of_decide_eq_true (by first | (with_reducible assumption) | assumption)
                                  (try clear hcut33)
                                  have hcut34 := cut_mid (P := Try.prog) 22 3 .i64 .i64 Try.underlying22 hi034 1 hsz34 Ao20 t216.length co20 x67_1 (wrap64 (x67_1 + t220)) q034 ql34 q34 hroom34
                                  have hr34 := Kd.C_mid (lo := (x67_1 : Int).toNat) (hi := ((wrap64 (x67_1 + t220)) : Int).toNat) (c := co20) hC34 (by omega) (by omega) hroom34
                                  obtain ⟨A34, hA34⟩ : ∃ A1, A1 = (if co20 = (x67_1 : Int).toNat then Ao20 else (Ao20 : Option Addr).map (·.add ((x67_1 : Int).toNat * 1))) := ⟨_, rfl⟩
                                  obtain ⟨c34, hc34⟩ : ∃ c1, c1 = co20 - (x67_1 : Int).toNat := ⟨_, rfl⟩
                                  have hy34 : y232.length = ((wrap64 (x67_1 + t220)) : Int).toNat - (x67_1 : Int).toNat := (by rw [Ny232.out, List.length_drop, List.length_take] <;> omega)
                                  rw [show ((t216).take ((wrap64 (x67_1 + t220)) : Int).toNat).drop (x67_1 : Int).toNat = y232 from Ny232.out.symm] at hr34
                                  replace hr34 : Kd.C (Kd.int .i64) _ A34 y232.length y232 := (by rw [hA34]; exact hr34)
                                  rw [← hy34, ← hA34, ← hc34] at hcut34
                                  have HR235 := Aside0.mk hr34
                                  have HC235 := Aside0.mk (show y232.length ≤ c34 from by rw [hy34, hc34]; exact Nat.sub_le_sub_right (Nat.le_trans (by omega) hroom34) _)
                                  clear hr34 hC34 hroom34 hi034 hsz34 hc34
                                  have KY34 := Aside0.mk hy34
                                  have KA34 := Aside0.mk hA34
                                  clear hy34 hA34
                                  have KL34 := Aside0.mk (show ((wrap64 (x67_1 + t220)) : Int).toNat ≤ t216.length from by omega)
                                  have KM34 := Aside0.mk (show (x67_1 : Int).toNat ≤ ((wrap64 (x67_1 + t220)) : Int).toNat from by omega)
                                  replace q34 := eq_true q34
                                  go_wp2_with (first | ((with_reducible refine gate_callee (f := 12) rfl ?_); refine goesL_ (some 78) rfl rfl Try.func12 (by kernel_rfl) rfl #[.slice A22 y223.length c22, .slice A34 y232.length c34] rfl (by (try simp only [List.map_toArray, List.map_cons, List.map_nil]); first | done | rfl | (simp only [List.length_drop, List.length_take]; rfl)) ?_; (with_reducible refine (euclid_Distance.calls k1 _ _ y223 _ _ y232 t236 t237 _ ?side1 ?side2 ?side3 ?side4 A29.out).mono ?_); (case side1 => repeat (first | exact (by repeat (first | (with_reducible exact HR226.out) | (with_reducible refine Kd.C_alloc ?_ _) | (with_reducible refine Kd.C_drewN ?_ _) | (with_reducible refine Kd.C_drew ?_) | exact HR226.out)) | (with_reducible refine Kd.C_alloc ?_ _) | (with_reducible refine Kd.C_drewN ?_ _) | (with_reducible refine Kd.C_drew ?_))); (case side2 => exact HC226.out); (case side3 => repeat (first | exact (by repeat (first | (with_reducible exact HR235.out) | (with_reducible refine Kd.C_alloc ?_ _) | (with_reducible refine Kd.C_drewN ?_ _) | (with_reducible refine Kd.C_drew ?_) | exact HR235.out)) | (with_reducible refine Kd.C_alloc ?_ _) | (with_reducible refine Kd.C_drewN ?_ _) | (with_reducible refine Kd.C_drew ?_))); (case side4 => exact HC235.out); rintro e w' ⟨rfl, ⟨nd, rfl⟩⟩; refine ⟨_, rfl, ?_⟩; have p238 : 0 ≤ (x67_1 : Int) := of_decide_eq_true (by first | (with_reducible assumption) | assumption); have q238 : x67_1 < (t227.length : Int) := of_decide_eq_true (by first | (with_reducible assumption) | assumption); obtain ⟨ad238, e238, hx238_0⟩ := Kd.at_int (Kd.R_reads' HO_10.out).2.2 x67_1 p238 q238; obtain rfl : ad231 = ad238 := (by injection e238); replace p238 := eq_true p238; replace q238 := eq_true q238))
                                  go_ret
                                  exact ⟨by first | rfl | (simp [errW_none, errW_some] <;> rfl) | (simp only [← hji6]; first | rfl | (simp [errW_none, errW_some] <;> rfl)) | (simp [*, errW_none, errW_some] <;> rfl), by repeat (first | (with_reducible first | exact HB.out | apply below_alloc | apply pw_below_drewN | apply below_drew1) | exact HB.out)⟩
                              · rw [if_neg c31] at H
                                exact absurd H (by simp)
                            · rw [if_neg c30] at H
                              have c30b0 : (t237 == 0) = false := beq_eq_false_iff_ne.mpr c30
                              have c30b1 : (t237 != 0) = true := bne_iff_ne.mpr c30
                              obtain rfl := Option.some.inj H
                              have q35 : ((wrap64 (x67_1 + t220)) : Int) ≤ ((t216.length : Int) : Int) := of_decide_eq_true (by first | (with_reducible assumption) | assumption)
                              obtain ⟨i035, hi035, _, hsz35, _⟩ := info_parts info3
                              have hroom35 : t216.length ≤ co20 := (Kd.R_reads' HO_6.out).2.1
                              have hC35 : Kd.C (Kd.int .i64) _ Ao20 t216.length t216 := (Kd.R_reads' HO_6.out).2.2
                              have ql35 : (x67_1 : Int) ≤ ((wrap64 (x67_1 + t220)) : Int) := of_decide_eq_true (by first | (with_reducible assumption) | assumption)
                              have q035 : (0 : Int) ≤ (x67_1 : Int) := of_decide_eq_true (by first | (with_reducible assumption) | assumption)
                              (try clear hcut34)
                              have hcut35 := cut_mid (P := Try.prog) 22 3 .i64 .i64 Try.underlying22 hi035 1 hsz35 Ao20 t216.length co20 x67_1 (wrap64 (x67_1 + t220)) q035 ql35 q35 hroom35
                              have hr35 := Kd.C_mid (lo := (x67_1 : Int).toNat) (hi := ((wrap64 (x67_1 + t220)) : Int).toNat) (c := co20) hC35 (by omega) (by omega) hroom35
                              obtain ⟨A35, hA35⟩ : ∃ A1, A1 = (if co20 = (x67_1 : Int).toNat then Ao20 else (Ao20 : Option Addr).map (·.add ((x67_1 : Int).toNat * 1))) := ⟨_, rfl⟩
                              obtain ⟨c35, hc35⟩ : ∃ c1, c1 = co20 - (x67_1 : Int).toNat := ⟨_, rfl⟩
                              have hy35 : y232.length = ((wrap64 (x67_1 + t220)) : Int).toNat - (x67_1 : Int).toNat := (by rw [Ny232.out, List.length_drop, List.length_take] <;> omega)
                              rw [show ((t216).take ((wrap64 (x67_1 + t220)) : Int).toNat).drop (x67_1 : Int).toNat = y232 from Ny232.out.symm] at hr35
                              replace hr35 : Kd.C (Kd.int .i64) _ A35 y232.length y232 := (by rw [hA35]; exact hr35)
                              rw [← hy35, ← hA35, ← hc35] at hcut35
                              have HR235 := Aside0.mk hr35
                              have HC235 := Aside0.mk (show y232.length ≤ c35 from by rw [hy35, hc35]; exact Nat.sub_le_sub_right (Nat.le_trans (by omega) hroom35) _)
                              clear hr35 hC35 hroom35 hi035 hsz35 hc35
                              have KY35 := Aside0.mk hy35
                              have KA35 := Aside0.mk hA35
                              clear hy35 hA35
                              have KL35 := Aside0.mk (show ((wrap64 (x67_1 + t220)) : Int).toNat ≤ t216.length from by omega)
                              have KM35 := Aside0.mk (show (x67_1 : Int).toNat ≤ ((wrap64 (x67_1 + t220)) : Int).toNat from by omega)
                              replace q35 := eq_true q35
                              go_wp2_with (first | ((with_reducible refine gate_callee (f := 12) rfl ?_); refine goesL_ (some 78) rfl rfl Try.func12 (by kernel_rfl) rfl #[.slice A22 y223.length c22, .slice A35 y232.length c35] rfl (by (try simp only [List.map_toArray, List.map_cons, List.map_nil]); first | done | rfl | (simp only [List.length_drop, List.length_take]; rfl)) ?_; (with_reducible refine (euclid_Distance.calls k1 _ _ y223 _ _ y232 t236 t237 _ ?side1 ?side2 ?side3 ?side4 A29.out).mono ?_); (case side1 => repeat (first | exact (by repeat (first | (with_reducible exact HR226.out) | (with_reducible refine Kd.C_alloc ?_ _) | (with_reducible refine Kd.C_drewN ?_ _) | (with_reducible refine Kd.C_drew ?_) | exact HR226.out)) | (with_reducible refine Kd.C_alloc ?_ _) | (with_reducible refine Kd.C_drewN ?_ _) | (with_reducible refine Kd.C_drew ?_))); (case side2 => exact HC226.out); (case side3 => repeat (first | exact (by repeat (first | (with_reducible exact HR235.out) | (with_reducible refine Kd.C_alloc ?_ _) | (with_reducible refine Kd.C_drewN ?_ _) | (with_reducible refine Kd.C_drew ?_) | exact HR235.out)) | (with_reducible refine Kd.C_alloc ?_ _) | (with_reducible refine Kd.C_drewN ?_ _) | (with_reducible refine Kd.C_drew ?_))); (case side4 => exact HC235.out); rintro e w' ⟨rfl, ⟨nd, rfl⟩⟩; refine ⟨_, rfl, ?_⟩))
                              go_ret
                              exact ⟨by first | rfl | (simp [errW_none, errW_some] <;> rfl) | (simp only [← hji6]; first | rfl | (simp [errW_none, errW_some] <;> rfl)) | (simp [*, errW_none, errW_some] <;> rfl), by repeat (first | (with_reducible first | exact HB.out | apply below_alloc | apply pw_below_drewN | apply below_drew1) | exact HB.out)⟩
                          · rw [if_neg c28] at H
                            exact absurd H (by simp)
                        · rw [if_neg c27] at H
                          exact absurd H (by simp)
                      · rw [if_neg c26] at H
                        exact absurd H (by simp)
                    · rw [if_neg c25] at H
                      have c25b0 : decide (x67_1 < (t227.length : Int)) = false := decide_eq_false c25
                      clear c25
                      replace H := Option.bind_eq_some_iff.mp H
                      obtain ⟨t239, A360, H⟩ := H
                      replace H : (some t239) = some r := H
                      have A36 := Aside0.mk A360
                      clear A360
                      obtain rfl := Option.some.inj H
                      go_wp2_with (first | ((with_reducible refine gate_callee (f := 15) rfl ?_); refine goesL_ (some 92) rfl rfl Try.func15 (by kernel_rfl) rfl #[] rfl (by (try simp only [List.map_toArray, List.map_cons, List.map_nil]); first | done | rfl | (simp only [List.length_drop, List.length_take]; rfl)) ?_; (with_reducible refine (shapesearchlaw12_awake.calls k1  t239 _ A36.out).mono ?_); rintro e w37 ⟨rfl, hb⟩; refine ⟨_, rfl, ?_⟩; have n0_ := Aside0.mk (Kd.R_below (by (with_reducible repeat (first | apply Kd.R_alloc | apply Kd.R_drewN | apply Kd.R_drew)); exact HO_6.out) hb); have n1_ := Aside0.mk (Kd.R_below (by (with_reducible repeat (first | apply Kd.R_alloc | apply Kd.R_drewN | apply Kd.R_drew)); exact HO_10.out) hb); have n2_ := Aside0.mk (Kd.C_below (by repeat (first | (with_reducible exact HR226.out) | (with_reducible refine Kd.C_alloc ?_ _) | (with_reducible refine Kd.C_drewN ?_ _) | (with_reducible refine Kd.C_drew ?_) | exact HR226.out)) hb); have n3_ := Aside0.mk (below_step (by repeat (first | (with_reducible first | exact HB.out | apply below_alloc | apply pw_below_drewN | apply below_drew1) | exact HB.out)) hb); clear HO_6; clear HO_10; clear HR226; clear HB; have HO_6 := n0_; have HO_10 := n1_; have HR226 := n2_; have HB := n3_; clear n0_ n1_ n2_ n3_; (try clear hb); (try clear hb2); (try clear hk); (try clear hi)))
                      go_ret
                      exact ⟨by first | rfl | (simp [errW_none, errW_some] <;> rfl) | (simp only [← hji6]; first | rfl | (simp [errW_none, errW_some] <;> rfl)) | (simp [*, errW_none, errW_some] <;> rfl), by repeat (first | (with_reducible first | exact HB.out | apply below_alloc | apply pw_below_drewN | apply below_drew1) | exact HB.out)⟩
              · rw [if_neg c16] at H
                have c16b0 : ((rd t227 t222) == 0) = false := beq_eq_false_iff_ne.mpr c16
                have c16b1 : ((rd t227 t222) != 0) = true := bne_iff_ne.mpr c16
                obtain rfl := Option.some.inj H
                go_enter Try.func7, Try.ntmps7
                go_wp2_with (first | ((with_reducible refine gate_callee (f := 9) rfl ?_); refine goesL_ (some 16) rfl rfl Try.func9 (by kernel_rfl) rfl #[.slice A0 l0.length c0] rfl (by (try simp only [List.map_toArray, List.map_cons, List.map_nil]); first | done | rfl | (simp only [List.length_drop, List.length_take]; rfl)) ?_; (with_reducible refine (shapesearchkeep_New.calls _ _ l0 t211 t212 w _ ?side1 ?side2 ?side3 A3.out).mono ?_); (case side1 => repeat (first | (with_reducible first | exact HB.out | apply below_alloc | apply pw_below_drewN | apply below_drew1) | exact HB.out)); (case side2 => exact HR0.out); (case side3 => exact HC0.out); rintro e w38 ⟨g213, rfl, hi, hb, hb2⟩; refine ⟨_, rfl, ?_⟩; have n0_ := Aside0.mk (hb); have n1_ := Aside0.mk (hi); clear HB; have HB := n0_; have HI213 := n1_; clear n0_ n1_; (try clear hb); (try clear hb2); (try clear hk); (try clear hi)) | ((with_reducible refine gate_callee (f := 21) rfl ?_); refine goesL_ (some 19) rfl rfl Try.func21 (by kernel_rfl) rfl #[.pointer (some ⟨g213, 0, none⟩), .int .i64 2, .int .i64 40] rfl (by (try simp only [List.map_toArray, List.map_cons, List.map_nil]); first | done | rfl | (simp only [List.length_drop, List.length_take]; rfl)) ?_; (with_reducible refine (shapesearchkeep_Src_Range.calls g213 t211 t212 2 40 t214 t215 w _ ?side1 ?side2 A4.out).mono ?_); (case side1 => repeat (first | (with_reducible first | exact HI213.out | apply IsS56.alloc | apply IsS56.drewN | apply IsS56.drew | apply IsS56.set_1) | exact HI213.out)); (case side2 => repeat (first | (with_reducible first | exact HB.out | apply below_alloc | apply pw_below_drewN | apply below_drew1 | refine below_set ?_ (IsS56.ge HI213.out)) | exact HB.out)); rintro e w39 ⟨rfl, hi, hb, hk⟩; refine ⟨_, rfl, ?_⟩; have n0_ := Aside0.mk (hb); have n1_ := Aside0.mk (hi); clear HB; clear HI213; have HB := n0_; have HI213 := n1_; clear n0_ n1_; (try clear hb); (try clear hb2); (try clear hk); (try clear hi)) | ((with_reducible refine gate_callee (f := 20) rfl ?_); refine goesL_ (some 20) rfl rfl Try.func20 (by kernel_rfl) rfl #[.pointer (some ⟨g213, 0, none⟩), .int .i64 t214] rfl (by (try simp only [List.map_toArray, List.map_cons, List.map_nil]); first | done | rfl | (simp only [List.length_drop, List.length_take]; rfl)) ?_; (with_reducible refine (shapesearchkeep_Src_List.calls k g213 t211 t215 t214 t216 t219 w _ ?side1 ?side2 A5.out).mono ?_); (case side1 => repeat (first | (with_reducible first | exact HI213.out | apply IsS56.alloc | apply IsS56.drewN | apply IsS56.drew | apply IsS56.set_1) | exact HI213.out)); (case side2 => repeat (first | (with_reducible first | exact HB.out | apply below_alloc | apply pw_below_drewN | apply below_drew1 | refine below_set ?_ (IsS56.ge HI213.out)) | exact HB.out)); rintro e w40 ⟨v217, rfl, ho0, hi, hb, hk⟩; refine ⟨_, rfl, ?_⟩; have n0_ := Aside0.mk (Kd.R_lower ho0 (below_size (by repeat (first | (with_reducible first | exact HB.out | apply below_alloc | apply pw_below_drewN | apply below_drew1 | refine below_set ?_ (IsS56.ge HI213.out)) | exact HB.out)))); have n1_ := Aside0.mk (hb); have n2_ := Aside0.mk (hi); clear HB; clear HI213; have HO218 := n0_; have HB := n1_; have HI213 := n2_; clear n0_ n1_ n2_; (try clear hb); (try clear hb2); (try clear hk); (try clear hi); (try clear ho0); obtain ⟨Ao41, co41, eo41⟩ := Kd.R_slice HO218.out; subst eo41) | ((with_reducible refine gate_callee (f := 21) rfl ?_); refine goesL_ (some 25) rfl rfl Try.func21 (by kernel_rfl) rfl #[.pointer (some ⟨g213, 0, none⟩), .int .i64 2, .int .i64 ji6] rfl (by (try simp only [List.map_toArray, List.map_cons, List.map_nil]); first | done | (simp only [hji6]; rfl) | rfl | (simp only [List.length_drop, List.length_take]; rfl)) ?_; (with_reducible refine (shapesearchkeep_Src_Range.calls g213 t211 t219 2 ji6 t220 t221 w _ ?side1 ?side2 A7.out).mono ?_); (case side1 => repeat (first | (with_reducible first | exact HI213.out | apply IsS56.alloc | apply IsS56.drewN | apply IsS56.drew | apply IsS56.set_1) | exact HI213.out)); (case side2 => repeat (first | (with_reducible first | exact HB.out | apply below_alloc | apply pw_below_drewN | apply below_drew1 | refine below_set ?_ (IsS56.ge HI213.out)) | exact HB.out)); rintro e w42 ⟨rfl, hi, hb, hk⟩; refine ⟨_, rfl, ?_⟩; have n0_ := Aside0.mk (Kd.R_mono (Kd.R_keep (IsS56.apart (show IsS56 w _ g213 t211 t219 from by repeat (first | (with_reducible first | exact HI213.out | apply IsS56.alloc | apply IsS56.drewN | apply IsS56.drew | apply IsS56.set_1) | exact HI213.out)) (by (with_reducible repeat (first | apply Kd.R_alloc | apply Kd.R_drewN | apply Kd.R_drew)); exact HO218.out) (by decide)) hk (fun _ h => h.2)) (fun _ h => h.1)); have n1_ := Aside0.mk (hb); have n2_ := Aside0.mk (hi); clear HO218; clear HB; clear HI213; have HO218 := n0_; have HB := n1_; have HI213 := n2_; clear n0_ n1_ n2_; (try clear hb); (try clear hb2); (try clear hk); (try clear hi)) | ((with_reducible refine gate_callee (f := 18) rfl ?_); refine goesL_ (some 33) rfl rfl Try.func18 (by kernel_rfl) rfl #[.int .i64 (wrap64 (a1)), .int .i64 (wrap64 ((wrap64 ((t216.length : Int) - t220)) + 1))] rfl (by (try simp only [List.map_toArray, List.map_cons, List.map_nil]); first | done | rfl | (simp only [List.length_drop, List.length_take]; rfl)) ?_; (with_reducible refine (shapesearchkeep_Mod.calls (wrap64 (a1)) (wrap64 ((wrap64 ((t216.length : Int) - t220)) + 1)) t222 _ A8.out).mono ?_); rintro e w' ⟨rfl, ⟨nd, rfl⟩⟩; refine ⟨_, rfl, ?_⟩; have q43 : ((wrap64 (t222 + t220)) : Int) ≤ ((t216.length : Int) : Int) := of_decide_eq_true (by first | (with_reducible assumption) | assumption); obtain ⟨i043, hi043, _, hsz43, _⟩ := info_parts info3; have hroom43 : t216.length ≤ co41 := (Kd.R_reads' HO218.out).2.1; have hC43 : Kd.C (Kd.int .i64) _ Ao41 t216.length t216 := (Kd.R_reads' HO218.out).2.2; have ql43 : (t222 : Int) ≤ ((wrap64 (t222 + t220)) : Int) := of_decide_eq_true (by first | (with_reducible assumption) | assumption); have q043 : (0 : Int) ≤ (t222 : Int) := of_decide_eq_true (by first | (with_reducible assumption) | assumption); have hcut43 := cut_mid (P := Try.prog) 22 3 .i64 .i64 Try.underlying22 hi043 1 hsz43 Ao41 t216.length co41 t222 (wrap64 (t222 + t220)) q043 ql43 q43 hroom43; have hr43 := Kd.C_mid (lo := (t222 : Int).toNat) (hi := ((wrap64 (t222 + t220)) : Int).toNat) (c := co41) hC43 (by omega) (by omega) hroom43; obtain ⟨A43, hA43⟩ : ∃ A1, A1 = (if co41 = (t222 : Int).toNat then Ao41 else (Ao41 : Option Addr).map (·.add ((t222 : Int).toNat * 1))) := ⟨_, rfl⟩; obtain ⟨c43, hc43⟩ : ∃ c1, c1 = co41 - (t222 : Int).toNat := ⟨_, rfl⟩; have hy43 : y223.length = ((wrap64 (t222 + t220)) : Int).toNat - (t222 : Int).toNat := (by rw [Ny223.out, List.length_drop, List.length_take] <;> omega); rw [show ((t216).take ((wrap64 (t222 + t220)) : Int).toNat).drop (t222 : Int).toNat = y223 from Ny223.out.symm] at hr43; replace hr43 : Kd.C (Kd.int .i64) _ A43 y223.length y223 := (by rw [hA43]; exact hr43); rw [← hy43, ← hA43, ← hc43] at hcut43; have HR226 := Aside0.mk hr43; have HC226 := Aside0.mk (show y223.length ≤ c43 from by rw [hy43, hc43]; exact Nat.sub_le_sub_right (Nat.le_trans (by omega) hroom43) _); clear hr43 hC43 hroom43 hi043 hsz43 hc43; have KY43 := Aside0.mk hy43; have KA43 := Aside0.mk hA43; clear hy43 hA43; have KL43 := Aside0.mk (show ((wrap64 (t222 + t220)) : Int).toNat ≤ t216.length from by omega); have KM43 := Aside0.mk (show (t222 : Int).toNat ≤ ((wrap64 (t222 + t220)) : Int).toNat from by omega); replace q43 := eq_true q43) | ((with_reducible refine gate_callee (f := 22) rfl ?_); refine goesL_ (some 43) rfl rfl Try.func22 (by kernel_rfl) rfl #[.slice A43 y223.length c43, .slice Ao41 t216.length co41] rfl (by (try simp only [List.map_toArray, List.map_cons, List.map_nil]); first | done | rfl | (simp only [List.length_drop, List.length_take]; rfl)) ?_; (with_reducible refine (euclid_Profile.calls k _ _ y223 _ _ t216 t227 t228 _ ?side1 ?side2 ?side3 ?side4 A12.out).mono ?_); (case side1 => repeat (first | exact (by repeat (first | (with_reducible exact HR226.out) | (with_reducible refine Kd.C_alloc ?_ _) | (with_reducible refine Kd.C_drewN ?_ _) | (with_reducible refine Kd.C_drew ?_) | exact HR226.out)) | (with_reducible refine Kd.C_alloc ?_ _) | (with_reducible refine Kd.C_drewN ?_ _) | (with_reducible refine Kd.C_drew ?_))); (case side2 => exact HC226.out); (case side3 => repeat (first | exact (Kd.R_reads' HO218.out).2.2 | (with_reducible refine Kd.C_alloc ?_ _) | (with_reducible refine Kd.C_drewN ?_ _) | (with_reducible refine Kd.C_drew ?_))); (case side4 => exact (Kd.R_reads' HO218.out).2.1); rintro e w44 ⟨v229, rfl, ho0, hb⟩; refine ⟨_, rfl, ?_⟩; have n0_ := Aside0.mk (Kd.R_elder' (by (with_reducible repeat (first | apply Kd.R_alloc | apply Kd.R_drewN | apply Kd.R_drew)); exact HO218.out) (Kd.R_base ho0) hb); have n1_ := Aside0.mk (Kd.R_lower (Kd.R_new' ho0 (Kd.R_lt (by (with_reducible repeat (first | apply Kd.R_alloc | apply Kd.R_drewN | apply Kd.R_drew)); exact HO218.out))) (below_size (by repeat (first | (with_reducible first | exact HB.out | apply below_alloc | apply pw_below_drewN | apply below_drew1 | refine below_set ?_ (IsS56.ge HI213.out)) | exact HB.out)))); have n2_ := Aside0.mk (IsS56.below (by repeat (first | (with_reducible first | exact HI213.out | apply IsS56.alloc | apply IsS56.drewN | apply IsS56.drew | apply IsS56.set_1) | exact HI213.out)) hb); have n3_ := Aside0.mk (Kd.C_below (by repeat (first | (with_reducible exact HR226.out) | (with_reducible refine Kd.C_alloc ?_ _) | (with_reducible refine Kd.C_drewN ?_ _) | (with_reducible refine Kd.C_drew ?_) | exact HR226.out)) hb); have n4_ := Aside0.mk (below_step (by repeat (first | (with_reducible first | exact HB.out | apply below_alloc | apply pw_below_drewN | apply below_drew1 | refine below_set ?_ (IsS56.ge HI213.out)) | exact HB.out)) hb); clear HO218; clear HI213; clear HR226; clear HB; have HO218 := n0_; have HO230 := n1_; have HI213 := n2_; have HR226 := n3_; have HB := n4_; clear n0_ n1_ n2_ n3_ n4_; (try clear hb); (try clear hb2); (try clear hk); (try clear hi); (try clear ho0); obtain ⟨Ao45, co45, eo45⟩ := Kd.R_slice HO230.out; subst eo45; have p231 : 0 ≤ (t222 : Int) := of_decide_eq_true (by first | (with_reducible assumption) | assumption); have q231 : t222 < (t227.length : Int) := of_decide_eq_true (by first | (with_reducible assumption) | assumption); obtain ⟨ad231, e231, hx231_0⟩ := Kd.at_int (Kd.R_reads' HO230.out).2.2 t222 p231 q231; cases e231; replace p231 := eq_true p231; replace q231 := eq_true q231))
                go_ret
                exact ⟨by first | rfl | (simp [errW_none, errW_some] <;> rfl) | (simp only [← hji6]; first | rfl | (simp [errW_none, errW_some] <;> rfl)) | (simp [*, errW_none, errW_some] <;> rfl), by repeat (first | (with_reducible first | exact HB.out | apply below_alloc | apply pw_below_drewN | apply below_drew1 | refine below_set ?_ (IsS56.ge HI213.out)) | exact HB.out)⟩
            · rw [if_neg c15] at H
              exact absurd H (by simp)
          · rw [if_neg c14] at H
            have c14b0 : ((t227.length : Int) == (wrap64 ((wrap64 ((t216.length : Int) - t220)) + 1))) = false := beq_eq_false_iff_ne.mpr c14
            have c14b1 : ((t227.length : Int) != (wrap64 ((wrap64 ((t216.length : Int) - t220)) + 1))) = true := bne_iff_ne.mpr c14
            obtain rfl := Option.some.inj H
            go_enter Try.func7, Try.ntmps7
            go_wp2_with (first | ((with_reducible refine gate_callee (f := 9) rfl ?_); refine goesL_ (some 16) rfl rfl Try.func9 (by kernel_rfl) rfl #[.slice A0 l0.length c0] rfl (by (try simp only [List.map_toArray, List.map_cons, List.map_nil]); first | done | rfl | (simp only [List.length_drop, List.length_take]; rfl)) ?_; (with_reducible refine (shapesearchkeep_New.calls _ _ l0 t211 t212 w _ ?side1 ?side2 ?side3 A3.out).mono ?_); (case side1 => repeat (first | (with_reducible first | exact HB.out | apply below_alloc | apply pw_below_drewN | apply below_drew1) | exact HB.out)); (case side2 => exact HR0.out); (case side3 => exact HC0.out); rintro e w46 ⟨g213, rfl, hi, hb, hb2⟩; refine ⟨_, rfl, ?_⟩; have n0_ := Aside0.mk (hb); have n1_ := Aside0.mk (hi); clear HB; have HB := n0_; have HI213 := n1_; clear n0_ n1_; (try clear hb); (try clear hb2); (try clear hk); (try clear hi)) | ((with_reducible refine gate_callee (f := 21) rfl ?_); refine goesL_ (some 19) rfl rfl Try.func21 (by kernel_rfl) rfl #[.pointer (some ⟨g213, 0, none⟩), .int .i64 2, .int .i64 40] rfl (by (try simp only [List.map_toArray, List.map_cons, List.map_nil]); first | done | rfl | (simp only [List.length_drop, List.length_take]; rfl)) ?_; (with_reducible refine (shapesearchkeep_Src_Range.calls g213 t211 t212 2 40 t214 t215 w _ ?side1 ?side2 A4.out).mono ?_); (case side1 => repeat (first | (with_reducible first | exact HI213.out | apply IsS56.alloc | apply IsS56.drewN | apply IsS56.drew | apply IsS56.set_1) | exact HI213.out)); (case side2 => repeat (first | (with_reducible first | exact HB.out | apply below_alloc | apply pw_below_drewN | apply below_drew1 | refine below_set ?_ (IsS56.ge HI213.out)) | exact HB.out)); rintro e w47 ⟨rfl, hi, hb, hk⟩; refine ⟨_, rfl, ?_⟩; have n0_ := Aside0.mk (hb); have n1_ := Aside0.mk (hi); clear HB; clear HI213; have HB := n0_; have HI213 := n1_; clear n0_ n1_; (try clear hb); (try clear hb2); (try clear hk); (try clear hi)) | ((with_reducible refine gate_callee (f := 20) rfl ?_); refine goesL_ (some 20) rfl rfl Try.func20 (by kernel_rfl) rfl #[.pointer (some ⟨g213, 0, none⟩), .int .i64 t214] rfl (by (try simp only [List.map_toArray, List.map_cons, List.map_nil]); first | done | rfl | (simp only [List.length_drop, List.length_take]; rfl)) ?_; (with_reducible refine (shapesearchkeep_Src_List.calls k g213 t211 t215 t214 t216 t219 w _ ?side1 ?side2 A5.out).mono ?_); (case side1 => repeat (first | (with_reducible first | exact HI213.out | apply IsS56.alloc | apply IsS56.drewN | apply IsS56.drew | apply IsS56.set_1) | exact HI213.out)); (case side2 => repeat (first | (with_reducible first | exact HB.out | apply below_alloc | apply pw_below_drewN | apply below_drew1 | refine below_set ?_ (IsS56.ge HI213.out)) | exact HB.out)); rintro e w48 ⟨v217, rfl, ho0, hi, hb, hk⟩; refine ⟨_, rfl, ?_⟩; have n0_ := Aside0.mk (Kd.R_lower ho0 (below_size (by repeat (first | (with_reducible first | exact HB.out | apply below_alloc | apply pw_below_drewN | apply below_drew1 | refine below_set ?_ (IsS56.ge HI213.out)) | exact HB.out)))); have n1_ := Aside0.mk (hb); have n2_ := Aside0.mk (hi); clear HB; clear HI213; have HO218 := n0_; have HB := n1_; have HI213 := n2_; clear n0_ n1_ n2_; (try clear hb); (try clear hb2); (try clear hk); (try clear hi); (try clear ho0); obtain ⟨Ao49, co49, eo49⟩ := Kd.R_slice HO218.out; subst eo49) | ((with_reducible refine gate_callee (f := 21) rfl ?_); refine goesL_ (some 25) rfl rfl Try.func21 (by kernel_rfl) rfl #[.pointer (some ⟨g213, 0, none⟩), .int .i64 2, .int .i64 ji6] rfl (by (try simp only [List.map_toArray, List.map_cons, List.map_nil]); first | done | (simp only [hji6]; rfl) | rfl | (simp only [List.length_drop, List.length_take]; rfl)) ?_; (with_reducible refine (shapesearchkeep_Src_Range.calls g213 t211 t219 2 ji6 t220 t221 w _ ?side1 ?side2 A7.out).mono ?_); (case side1 => repeat (first | (with_reducible first | exact HI213.out | apply IsS56.alloc | apply IsS56.drewN | apply IsS56.drew | apply IsS56.set_1) | exact HI213.out)); (case side2 => repeat (first | (with_reducible first | exact HB.out | apply below_alloc | apply pw_below_drewN | apply below_drew1 | refine below_set ?_ (IsS56.ge HI213.out)) | exact HB.out)); rintro e w50 ⟨rfl, hi, hb, hk⟩; refine ⟨_, rfl, ?_⟩; have n0_ := Aside0.mk (Kd.R_mono (Kd.R_keep (IsS56.apart (show IsS56 w _ g213 t211 t219 from by repeat (first | (with_reducible first | exact HI213.out | apply IsS56.alloc | apply IsS56.drewN | apply IsS56.drew | apply IsS56.set_1) | exact HI213.out)) (by (with_reducible repeat (first | apply Kd.R_alloc | apply Kd.R_drewN | apply Kd.R_drew)); exact HO218.out) (by decide)) hk (fun _ h => h.2)) (fun _ h => h.1)); have n1_ := Aside0.mk (hb); have n2_ := Aside0.mk (hi); clear HO218; clear HB; clear HI213; have HO218 := n0_; have HB := n1_; have HI213 := n2_; clear n0_ n1_ n2_; (try clear hb); (try clear hb2); (try clear hk); (try clear hi)) | ((with_reducible refine gate_callee (f := 18) rfl ?_); refine goesL_ (some 33) rfl rfl Try.func18 (by kernel_rfl) rfl #[.int .i64 (wrap64 (a1)), .int .i64 (wrap64 ((wrap64 ((t216.length : Int) - t220)) + 1))] rfl (by (try simp only [List.map_toArray, List.map_cons, List.map_nil]); first | done | rfl | (simp only [List.length_drop, List.length_take]; rfl)) ?_; (with_reducible refine (shapesearchkeep_Mod.calls (wrap64 (a1)) (wrap64 ((wrap64 ((t216.length : Int) - t220)) + 1)) t222 _ A8.out).mono ?_); rintro e w' ⟨rfl, ⟨nd, rfl⟩⟩; refine ⟨_, rfl, ?_⟩; have q51 : ((wrap64 (t222 + t220)) : Int) ≤ ((t216.length : Int) : Int) := of_decide_eq_true (by first | (with_reducible assumption) | assumption); obtain ⟨i051, hi051, _, hsz51, _⟩ := info_parts info3; have hroom51 : t216.length ≤ co49 := (Kd.R_reads' HO218.out).2.1; have hC51 : Kd.C (Kd.int .i64) _ Ao49 t216.length t216 := (Kd.R_reads' HO218.out).2.2; have ql51 : (t222 : Int) ≤ ((wrap64 (t222 + t220)) : Int) := of_decide_eq_true (by first | (with_reducible assumption) | assumption); have q051 : (0 : Int) ≤ (t222 : Int) := of_decide_eq_true (by first | (with_reducible assumption) | assumption); have hcut51 := cut_mid (P := Try.prog) 22 3 .i64 .i64 Try.underlying22 hi051 1 hsz51 Ao49 t216.length co49 t222 (wrap64 (t222 + t220)) q051 ql51 q51 hroom51; have hr51 := Kd.C_mid (lo := (t222 : Int).toNat) (hi := ((wrap64 (t222 + t220)) : Int).toNat) (c := co49) hC51 (by omega) (by omega) hroom51; obtain ⟨A51, hA51⟩ : ∃ A1, A1 = (if co49 = (t222 : Int).toNat then Ao49 else (Ao49 : Option Addr).map (·.add ((t222 : Int).toNat * 1))) := ⟨_, rfl⟩; obtain ⟨c51, hc51⟩ : ∃ c1, c1 = co49 - (t222 : Int).toNat := ⟨_, rfl⟩; have hy51 : y223.length = ((wrap64 (t222 + t220)) : Int).toNat - (t222 : Int).toNat := (by rw [Ny223.out, List.length_drop, List.length_take] <;> omega); rw [show ((t216).take ((wrap64 (t222 + t220)) : Int).toNat).drop (t222 : Int).toNat = y223 from Ny223.out.symm] at hr51; replace hr51 : Kd.C (Kd.int .i64) _ A51 y223.length y223 := (by rw [hA51]; exact hr51); rw [← hy51, ← hA51, ← hc51] at hcut51; have HR226 := Aside0.mk hr51; have HC226 := Aside0.mk (show y223.length ≤ c51 from by rw [hy51, hc51]; exact Nat.sub_le_sub_right (Nat.le_trans (by omega) hroom51) _); clear hr51 hC51 hroom51 hi051 hsz51 hc51; have KY51 := Aside0.mk hy51; have KA51 := Aside0.mk hA51; clear hy51 hA51; have KL51 := Aside0.mk (show ((wrap64 (t222 + t220)) : Int).toNat ≤ t216.length from by omega); have KM51 := Aside0.mk (show (t222 : Int).toNat ≤ ((wrap64 (t222 + t220)) : Int).toNat from by omega); replace q51 := eq_true q51) | ((with_reducible refine gate_callee (f := 22) rfl ?_); refine goesL_ (some 43) rfl rfl Try.func22 (by kernel_rfl) rfl #[.slice A51 y223.length c51, .slice Ao49 t216.length co49] rfl (by (try simp only [List.map_toArray, List.map_cons, List.map_nil]); first | done | rfl | (simp only [List.length_drop, List.length_take]; rfl)) ?_; (with_reducible refine (euclid_Profile.calls k _ _ y223 _ _ t216 t227 t228 _ ?side1 ?side2 ?side3 ?side4 A12.out).mono ?_); (case side1 => repeat (first | exact (by repeat (first | (with_reducible exact HR226.out) | (with_reducible refine Kd.C_alloc ?_ _) | (with_reducible refine Kd.C_drewN ?_ _) | (with_reducible refine Kd.C_drew ?_) | exact HR226.out)) | (with_reducible refine Kd.C_alloc ?_ _) | (with_reducible refine Kd.C_drewN ?_ _) | (with_reducible refine Kd.C_drew ?_))); (case side2 => exact HC226.out); (case side3 => repeat (first | exact (Kd.R_reads' HO218.out).2.2 | (with_reducible refine Kd.C_alloc ?_ _) | (with_reducible refine Kd.C_drewN ?_ _) | (with_reducible refine Kd.C_drew ?_))); (case side4 => exact (Kd.R_reads' HO218.out).2.1); rintro e w52 ⟨v229, rfl, ho0, hb⟩; refine ⟨_, rfl, ?_⟩; have n0_ := Aside0.mk (Kd.R_elder' (by (with_reducible repeat (first | apply Kd.R_alloc | apply Kd.R_drewN | apply Kd.R_drew)); exact HO218.out) (Kd.R_base ho0) hb); have n1_ := Aside0.mk (Kd.R_lower (Kd.R_new' ho0 (Kd.R_lt (by (with_reducible repeat (first | apply Kd.R_alloc | apply Kd.R_drewN | apply Kd.R_drew)); exact HO218.out))) (below_size (by repeat (first | (with_reducible first | exact HB.out | apply below_alloc | apply pw_below_drewN | apply below_drew1 | refine below_set ?_ (IsS56.ge HI213.out)) | exact HB.out)))); have n2_ := Aside0.mk (IsS56.below (by repeat (first | (with_reducible first | exact HI213.out | apply IsS56.alloc | apply IsS56.drewN | apply IsS56.drew | apply IsS56.set_1) | exact HI213.out)) hb); have n3_ := Aside0.mk (Kd.C_below (by repeat (first | (with_reducible exact HR226.out) | (with_reducible refine Kd.C_alloc ?_ _) | (with_reducible refine Kd.C_drewN ?_ _) | (with_reducible refine Kd.C_drew ?_) | exact HR226.out)) hb); have n4_ := Aside0.mk (below_step (by repeat (first | (with_reducible first | exact HB.out | apply below_alloc | apply pw_below_drewN | apply below_drew1 | refine below_set ?_ (IsS56.ge HI213.out)) | exact HB.out)) hb); clear HO218; clear HI213; clear HR226; clear HB; have HO218 := n0_; have HO230 := n1_; have HI213 := n2_; have HR226 := n3_; have HB := n4_; clear n0_ n1_ n2_ n3_ n4_; (try clear hb); (try clear hb2); (try clear hk); (try clear hi); (try clear ho0); obtain ⟨Ao53, co53, eo53⟩ := Kd.R_slice HO230.out; subst eo53))
            go_ret
            exact ⟨by first | rfl | (simp [errW_none, errW_some] <;> rfl) | (simp only [← hji6]; first | rfl | (simp [errW_none, errW_some] <;> rfl)) | (simp [*, errW_none, errW_some] <;> rfl), by repeat (first | (with_reducible first | exact HB.out | apply below_alloc | apply pw_below_drewN | apply below_drew1 | refine below_set ?_ (IsS56.ge HI213.out)) | exact HB.out)⟩
        · rw [if_neg c13] at H
          have c13b0 : (t228 == 0) = false := beq_eq_false_iff_ne.mpr c13
          have c13b1 : (t228 != 0) = true := bne_iff_ne.mpr c13
          obtain rfl := Option.some.inj H
          go_enter Try.func7, Try.ntmps7
          go_wp2_with (first | ((with_reducible refine gate_callee (f := 9) rfl ?_); refine goesL_ (some 16) rfl rfl Try.func9 (by kernel_rfl) rfl #[.slice A0 l0.length c0] rfl (by (try simp only [List.map_toArray, List.map_cons, List.map_nil]); first | done | rfl | (simp only [List.length_drop, List.length_take]; rfl)) ?_; (with_reducible refine (shapesearchkeep_New.calls _ _ l0 t211 t212 w _ ?side1 ?side2 ?side3 A3.out).mono ?_); (case side1 => repeat (first | (with_reducible first | exact HB.out | apply below_alloc | apply pw_below_drewN | apply below_drew1) | exact HB.out)); (case side2 => exact HR0.out); (case side3 => exact HC0.out); rintro e w54 ⟨g213, rfl, hi, hb, hb2⟩; refine ⟨_, rfl, ?_⟩; have n0_ := Aside0.mk (hb); have n1_ := Aside0.mk (hi); clear HB; have HB := n0_; have HI213 := n1_; clear n0_ n1_; (try clear hb); (try clear hb2); (try clear hk); (try clear hi)) | ((with_reducible refine gate_callee (f := 21) rfl ?_); refine goesL_ (some 19) rfl rfl Try.func21 (by kernel_rfl) rfl #[.pointer (some ⟨g213, 0, none⟩), .int .i64 2, .int .i64 40] rfl (by (try simp only [List.map_toArray, List.map_cons, List.map_nil]); first | done | rfl | (simp only [List.length_drop, List.length_take]; rfl)) ?_; (with_reducible refine (shapesearchkeep_Src_Range.calls g213 t211 t212 2 40 t214 t215 w _ ?side1 ?side2 A4.out).mono ?_); (case side1 => repeat (first | (with_reducible first | exact HI213.out | apply IsS56.alloc | apply IsS56.drewN | apply IsS56.drew | apply IsS56.set_1) | exact HI213.out)); (case side2 => repeat (first | (with_reducible first | exact HB.out | apply below_alloc | apply pw_below_drewN | apply below_drew1 | refine below_set ?_ (IsS56.ge HI213.out)) | exact HB.out)); rintro e w55 ⟨rfl, hi, hb, hk⟩; refine ⟨_, rfl, ?_⟩; have n0_ := Aside0.mk (hb); have n1_ := Aside0.mk (hi); clear HB; clear HI213; have HB := n0_; have HI213 := n1_; clear n0_ n1_; (try clear hb); (try clear hb2); (try clear hk); (try clear hi)) | ((with_reducible refine gate_callee (f := 20) rfl ?_); refine goesL_ (some 20) rfl rfl Try.func20 (by kernel_rfl) rfl #[.pointer (some ⟨g213, 0, none⟩), .int .i64 t214] rfl (by (try simp only [List.map_toArray, List.map_cons, List.map_nil]); first | done | rfl | (simp only [List.length_drop, List.length_take]; rfl)) ?_; (with_reducible refine (shapesearchkeep_Src_List.calls k g213 t211 t215 t214 t216 t219 w _ ?side1 ?side2 A5.out).mono ?_); (case side1 => repeat (first | (with_reducible first | exact HI213.out | apply IsS56.alloc | apply IsS56.drewN | apply IsS56.drew | apply IsS56.set_1) | exact HI213.out)); (case side2 => repeat (first | (with_reducible first | exact HB.out | apply below_alloc | apply pw_below_drewN | apply below_drew1 | refine below_set ?_ (IsS56.ge HI213.out)) | exact HB.out)); rintro e w56 ⟨v217, rfl, ho0, hi, hb, hk⟩; refine ⟨_, rfl, ?_⟩; have n0_ := Aside0.mk (Kd.R_lower ho0 (below_size (by repeat (first | (with_reducible first | exact HB.out | apply below_alloc | apply pw_below_drewN | apply below_drew1 | refine below_set ?_ (IsS56.ge HI213.out)) | exact HB.out)))); have n1_ := Aside0.mk (hb); have n2_ := Aside0.mk (hi); clear HB; clear HI213; have HO218 := n0_; have HB := n1_; have HI213 := n2_; clear n0_ n1_ n2_; (try clear hb); (try clear hb2); (try clear hk); (try clear hi); (try clear ho0); obtain ⟨Ao57, co57, eo57⟩ := Kd.R_slice HO218.out; subst eo57) | ((with_reducible refine gate_callee (f := 21) rfl ?_); refine goesL_ (some 25) rfl rfl Try.func21 (by kernel_rfl) rfl #[.pointer (some ⟨g213, 0, none⟩), .int .i64 2, .int .i64 ji6] rfl (by (try simp only [List.map_toArray, List.map_cons, List.map_nil]); first | done | (simp only [hji6]; rfl) | rfl | (simp only [List.length_drop, List.length_take]; rfl)) ?_; (with_reducible refine (shapesearchkeep_Src_Range.calls g213 t211 t219 2 ji6 t220 t221 w _ ?side1 ?side2 A7.out).mono ?_); (case side1 => repeat (first | (with_reducible first | exact HI213.out | apply IsS56.alloc | apply IsS56.drewN | apply IsS56.drew | apply IsS56.set_1) | exact HI213.out)); (case side2 => repeat (first | (with_reducible first | exact HB.out | apply below_alloc | apply pw_below_drewN | apply below_drew1 | refine below_set ?_ (IsS56.ge HI213.out)) | exact HB.out)); rintro e w58 ⟨rfl, hi, hb, hk⟩; refine ⟨_, rfl, ?_⟩; have n0_ := Aside0.mk (Kd.R_mono (Kd.R_keep (IsS56.apart (show IsS56 w _ g213 t211 t219 from by repeat (first | (with_reducible first | exact HI213.out | apply IsS56.alloc | apply IsS56.drewN | apply IsS56.drew | apply IsS56.set_1) | exact HI213.out)) (by (with_reducible repeat (first | apply Kd.R_alloc | apply Kd.R_drewN | apply Kd.R_drew)); exact HO218.out) (by decide)) hk (fun _ h => h.2)) (fun _ h => h.1)); have n1_ := Aside0.mk (hb); have n2_ := Aside0.mk (hi); clear HO218; clear HB; clear HI213; have HO218 := n0_; have HB := n1_; have HI213 := n2_; clear n0_ n1_ n2_; (try clear hb); (try clear hb2); (try clear hk); (try clear hi)) | ((with_reducible refine gate_callee (f := 18) rfl ?_); refine goesL_ (some 33) rfl rfl Try.func18 (by kernel_rfl) rfl #[.int .i64 (wrap64 (a1)), .int .i64 (wrap64 ((wrap64 ((t216.length : Int) - t220)) + 1))] rfl (by (try simp only [List.map_toArray, List.map_cons, List.map_nil]); first | done | rfl | (simp only [List.length_drop, List.length_take]; rfl)) ?_; (with_reducible refine (shapesearchkeep_Mod.calls (wrap64 (a1)) (wrap64 ((wrap64 ((t216.length : Int) - t220)) + 1)) t222 _ A8.out).mono ?_); rintro e w' ⟨rfl, ⟨nd, rfl⟩⟩; refine ⟨_, rfl, ?_⟩; have q59 : ((wrap64 (t222 + t220)) : Int) ≤ ((t216.length : Int) : Int) := of_decide_eq_true (by first | (with_reducible assumption) | assumption); obtain ⟨i059, hi059, _, hsz59, _⟩ := info_parts info3; have hroom59 : t216.length ≤ co57 := (Kd.R_reads' HO218.out).2.1; have hC59 : Kd.C (Kd.int .i64) _ Ao57 t216.length t216 := (Kd.R_reads' HO218.out).2.2; have ql59 : (t222 : Int) ≤ ((wrap64 (t222 + t220)) : Int) := of_decide_eq_true (by first | (with_reducible assumption) | assumption); have q059 : (0 : Int) ≤ (t222 : Int) := of_decide_eq_true (by first | (with_reducible assumption) | assumption); have hcut59 := cut_mid (P := Try.prog) 22 3 .i64 .i64 Try.underlying22 hi059 1 hsz59 Ao57 t216.length co57 t222 (wrap64 (t222 + t220)) q059 ql59 q59 hroom59; have hr59 := Kd.C_mid (lo := (t222 : Int).toNat) (hi := ((wrap64 (t222 + t220)) : Int).toNat) (c := co57) hC59 (by omega) (by omega) hroom59; obtain ⟨A59, hA59⟩ : ∃ A1, A1 = (if co57 = (t222 : Int).toNat then Ao57 else (Ao57 : Option Addr).map (·.add ((t222 : Int).toNat * 1))) := ⟨_, rfl⟩; obtain ⟨c59, hc59⟩ : ∃ c1, c1 = co57 - (t222 : Int).toNat := ⟨_, rfl⟩; have hy59 : y223.length = ((wrap64 (t222 + t220)) : Int).toNat - (t222 : Int).toNat := (by rw [Ny223.out, List.length_drop, List.length_take] <;> omega); rw [show ((t216).take ((wrap64 (t222 + t220)) : Int).toNat).drop (t222 : Int).toNat = y223 from Ny223.out.symm] at hr59; replace hr59 : Kd.C (Kd.int .i64) _ A59 y223.length y223 := (by rw [hA59]; exact hr59); rw [← hy59, ← hA59, ← hc59] at hcut59; have HR226 := Aside0.mk hr59; have HC226 := Aside0.mk (show y223.length ≤ c59 from by rw [hy59, hc59]; exact Nat.sub_le_sub_right (Nat.le_trans (by omega) hroom59) _); clear hr59 hC59 hroom59 hi059 hsz59 hc59; have KY59 := Aside0.mk hy59; have KA59 := Aside0.mk hA59; clear hy59 hA59; have KL59 := Aside0.mk (show ((wrap64 (t222 + t220)) : Int).toNat ≤ t216.length from by omega); have KM59 := Aside0.mk (show (t222 : Int).toNat ≤ ((wrap64 (t222 + t220)) : Int).toNat from by omega); replace q59 := eq_true q59) | ((with_reducible refine gate_callee (f := 22) rfl ?_); refine goesL_ (some 43) rfl rfl Try.func22 (by kernel_rfl) rfl #[.slice A59 y223.length c59, .slice Ao57 t216.length co57] rfl (by (try simp only [List.map_toArray, List.map_cons, List.map_nil]); first | done | rfl | (simp only [List.length_drop, List.length_take]; rfl)) ?_; (with_reducible refine (euclid_Profile.calls k _ _ y223 _ _ t216 t227 t228 _ ?side1 ?side2 ?side3 ?side4 A12.out).mono ?_); (case side1 => repeat (first | exact (by repeat (first | (with_reducible exact HR226.out) | (with_reducible refine Kd.C_alloc ?_ _) | (with_reducible refine Kd.C_drewN ?_ _) | (with_reducible refine Kd.C_drew ?_) | exact HR226.out)) | (with_reducible refine Kd.C_alloc ?_ _) | (with_reducible refine Kd.C_drewN ?_ _) | (with_reducible refine Kd.C_drew ?_))); (case side2 => exact HC226.out); (case side3 => repeat (first | exact (Kd.R_reads' HO218.out).2.2 | (with_reducible refine Kd.C_alloc ?_ _) | (with_reducible refine Kd.C_drewN ?_ _) | (with_reducible refine Kd.C_drew ?_))); (case side4 => exact (Kd.R_reads' HO218.out).2.1); rintro e w60 ⟨v229, rfl, ho0, hb⟩; refine ⟨_, rfl, ?_⟩; have n0_ := Aside0.mk (Kd.R_elder' (by (with_reducible repeat (first | apply Kd.R_alloc | apply Kd.R_drewN | apply Kd.R_drew)); exact HO218.out) (Kd.R_base ho0) hb); have n1_ := Aside0.mk (Kd.R_lower (Kd.R_new' ho0 (Kd.R_lt (by (with_reducible repeat (first | apply Kd.R_alloc | apply Kd.R_drewN | apply Kd.R_drew)); exact HO218.out))) (below_size (by repeat (first | (with_reducible first | exact HB.out | apply below_alloc | apply pw_below_drewN | apply below_drew1 | refine below_set ?_ (IsS56.ge HI213.out)) | exact HB.out)))); have n2_ := Aside0.mk (IsS56.below (by repeat (first | (with_reducible first | exact HI213.out | apply IsS56.alloc | apply IsS56.drewN | apply IsS56.drew | apply IsS56.set_1) | exact HI213.out)) hb); have n3_ := Aside0.mk (Kd.C_below (by repeat (first | (with_reducible exact HR226.out) | (with_reducible refine Kd.C_alloc ?_ _) | (with_reducible refine Kd.C_drewN ?_ _) | (with_reducible refine Kd.C_drew ?_) | exact HR226.out)) hb); have n4_ := Aside0.mk (below_step (by repeat (first | (with_reducible first | exact HB.out | apply below_alloc | apply pw_below_drewN | apply below_drew1 | refine below_set ?_ (IsS56.ge HI213.out)) | exact HB.out)) hb); clear HO218; clear HI213; clear HR226; clear HB; have HO218 := n0_; have HO230 := n1_; have HI213 := n2_; have HR226 := n3_; have HB := n4_; clear n0_ n1_ n2_ n3_ n4_; (try clear hb); (try clear hb2); (try clear hk); (try clear hi); (try clear ho0)))
          go_ret
          exact ⟨by first | rfl | (simp [errW_none, errW_some] <;> rfl) | (simp only [← hji6]; first | rfl | (simp [errW_none, errW_some] <;> rfl)) | (simp [*, errW_none, errW_some] <;> rfl), by repeat (first | (with_reducible first | exact HB.out | apply below_alloc | apply pw_below_drewN | apply below_drew1 | refine below_set ?_ (IsS56.ge HI213.out)) | exact HB.out)⟩
      · rw [if_neg c11] at H
        exact absurd H (by simp)
    · rw [if_neg c10] at H
      exact absurd H (by simp)
  · rw [if_neg c9] at H
    exact absurd H (by simp)

/-- THE ONE PURE STATEMENT of shapesearchlaw12_EuclidProfiles: yours. -/
def shapesearchlaw12_EuclidProfiles.Pure : Prop := ∀ (l0 : List Int) (a1 : Int), l0.length ≤ maxLen → l0.length * 8 ≤ 140737488351232 → (∀ x ∈ l0, (Lit.int .i64 x).wf = true) → (Lit.int .u8 a1).wf = true → ∃ k, shapesearchlaw12_EuclidProfiles.f k l0 a1 = some true
theorem shapesearchlaw12_EuclidProfiles.walk (P : shapesearchlaw12_EuclidProfiles.Pure) (a0 : Option Addr) (len0 cap0 : Nat) (z0 : List Int) (a1 : Int) (w : World) (w0 : (a0 = none ∧ len0 = 0 ∧ cap0 = 0 ∧ z0 = []) ∨ ∃ x, a0 = some x ∧ len0 ≤ cap0 ∧ cap0 ≤ maxLen ∧ z0.length = cap0 ∧ (∀ i, i < z0.length → w.cell? (x.add i) = some (.int .i64 (z0.getD i 0))) ∧ ∀ n ∈ z0, (Lit.int .i64 n).wf = true) (y0 : len0 * 8 ≤ 140737488351232) (w1 : (Lit.int .u8 a1).wf = true) :
    Calls Try.prog 7 #[.slice a0 len0 cap0, .int .u8 a1] w fun e w' => e = .returned (.bool true) ∧ Below w.heap.size w w' := by
  obtain ⟨l0, rfl, hr0, hm0, hw0, hc0⟩ := ReadsInt.ofRowC w0
  obtain ⟨k, h⟩ := P l0 a1 hm0 y0 hw0 w1
  refine (shapesearchlaw12_EuclidProfiles.calls k _ _ l0 a1 true w (Kd.C_of_reads (d := (0 : Int)) (h1 := fun _ => rfl) hr0) hc0 h).mono ?_
  rintro e w' ⟨rfl, hd⟩
  exact ⟨rfl, hd⟩

end Go.Proofs.Ytmkjmplkokfoiaa.PEuclidProfiles
