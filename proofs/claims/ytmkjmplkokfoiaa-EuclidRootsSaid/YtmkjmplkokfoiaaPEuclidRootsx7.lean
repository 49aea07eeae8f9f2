/- This file proves, function by function, what the Go functions that one law uses compute; most of it was printed by a program (wip/tools of this session, over the kit's print). -/
import Derived.Test.YtmkjmplkokfoiaaPEuclidRootsx0
import Derived.Test.YtmkjmplkokfoiaaPEuclidRootsx1
import Derived.Test.YtmkjmplkokfoiaaPEuclidRootsx2
import Derived.Test.YtmkjmplkokfoiaaPEuclidRootsx3
import Derived.Test.YtmkjmplkokfoiaaPEuclidRootsx4
import Derived.Test.YtmkjmplkokfoiaaPEuclidRootsx5
import Derived.Test.YtmkjmplkokfoiaaPEuclidRootsx6
namespace Go.Proofs.Ytmkjmplkokfoiaa.PEuclidRoots
open Go.RowKit Go.Proofs.YtmkjmplkokfoiaaW.PrintWords Go.Proofs.YtmkjmplkokfoiaaW.PrintLast Go.Proofs.YtmkjmplkokfoiaaW.PrintMore
attribute [local go_sem] max2_int min2_int max_two min_two max_three min_three max_four min_four   -- for this text's walks alone
set_option linter.unusedVariables false
set_option linter.unusedSimpArgs false

attribute [local go_sem high] eqA37
/-! ### shapesearchlaw12_EuclidRoots: function 5 -/
mutual
def shapesearchlaw12_EuclidRoots.l0 : Nat → List Int → List Int → List Int → Int → Int → Option (Bool)
  | 0, _, _, _, _, _ => none
  | k + 1, x4, x5, x6, x33, x34 => if x34 < x33 then (if 0 ≤ x34 then (if x34 < (x4.length : Int) then (if x34 < (x5.length : Int) then (if x34 < (x6.length : Int) then (shapesearchlaw12_EuclidRoots.l0 k (x4.set (x34 : Int).toNat (wrap64 (Int.tdiv (rd x4 x34) 5))) (x5.set (x34 : Int).toNat (wrap64 (Int.tdiv (rd x5 x34) 5))) (x6.set (x34 : Int).toNat (wrap64 (Int.tdiv (rd x6 x34) 5))) x33 (wrap64 (x34 + 1))) else (none)) else (none)) else (none)) else (none)) else ((euclid_Shifted.f k x4 x5).bind fun bt286 => ((euclid_Shifted.f k x5 x6).bind fun bt290 => ((euclid_Shifted.f k x4 x6).bind fun bt294 => ((euclid_Shifted.f k x5 x4).bind fun bt298 => ((euclid_Distance.f k x4 x5).bind fun bt302 => (if bt286.2.2 = 0 then (if bt290.2.2 = 0 then (if bt294.2.2 = 0 then (if bt298.2.2 = 0 then (if bt302.2 = 0 then (if (!(bt298.1 == bt286.1) || (!(bt298.2.1 == bt286.2.1))) = true then (shapesearchlaw12_EuclidRoots.j1 k bt302.1 (x4.length : Int) true bt286.1 bt286.2.1 bt290.1 bt290.2.1 bt294.1 bt294.2.1) else (if bt286.2.1 < 1 then (shapesearchlaw12_EuclidRoots.j1 k bt302.1 (x4.length : Int) true bt286.1 bt286.2.1 bt290.1 bt290.2.1 bt294.1 bt294.2.1) else (if bt290.2.1 < 1 then (shapesearchlaw12_EuclidRoots.j1 k bt302.1 (x4.length : Int) true bt286.1 bt286.2.1 bt290.1 bt290.2.1 bt294.1 bt294.2.1) else (if bt294.2.1 < 1 then (shapesearchlaw12_EuclidRoots.j1 k bt302.1 (x4.length : Int) true bt286.1 bt286.2.1 bt290.1 bt290.2.1 bt294.1 bt294.2.1) else (if bt286.2.1 = 0 then (none) else (if ((x4.length : Int) % bt286.2.1) = 0 then (if bt290.2.1 = 0 then (none) else (if ((x4.length : Int) % bt290.2.1) = 0 then (if bt294.2.1 = 0 then (none) else (shapesearchlaw12_EuclidRoots.j1 k bt302.1 (x4.length : Int) (((x4.length : Int) % bt294.2.1) != 0) bt286.1 bt286.2.1 bt290.1 bt290.2.1 bt294.1 bt294.2.1)) else (shapesearchlaw12_EuclidRoots.j1 k bt302.1 (x4.length : Int) true bt286.1 bt286.2.1 bt290.1 bt290.2.1 bt294.1 bt294.2.1))) else (shapesearchlaw12_EuclidRoots.j1 k bt302.1 (x4.length : Int) true bt286.1 bt286.2.1 bt290.1 bt290.2.1 bt294.1 bt294.2.1))))))) else (shapesearchlaw12_EuclidRoots.j1 k bt302.1 (x4.length : Int) true bt286.1 bt286.2.1 bt290.1 bt290.2.1 bt294.1 bt294.2.1)) else (shapesearchlaw12_EuclidRoots.j1 k bt302.1 (x4.length : Int) true bt286.1 bt286.2.1 bt290.1 bt290.2.1 bt294.1 bt294.2.1)) else (shapesearchlaw12_EuclidRoots.j1 k bt302.1 (x4.length : Int) true bt286.1 bt286.2.1 bt290.1 bt290.2.1 bt294.1 bt294.2.1)) else (shapesearchlaw12_EuclidRoots.j1 k bt302.1 (x4.length : Int) true bt286.1 bt286.2.1 bt290.1 bt290.2.1 bt294.1 bt294.2.1)) else (shapesearchlaw12_EuclidRoots.j1 k bt302.1 (x4.length : Int) true bt286.1 bt286.2.1 bt290.1 bt290.2.1 bt294.1 bt294.2.1)))))))
def shapesearchlaw12_EuclidRoots.j1 : Nat → Int → Int → Bool → Int → Int → Int → Int → Int → Int → Option (Bool)
  | 0, _, _, _, _, _, _, _, _, _ => none
  | k + 1, x16, x18, x152, x290000, x290001, x294000, x294001, x298000, x298001 => if x152 = true then (some false) else (if x290001 = 0 then (none) else (if x294001 = 0 then (none) else (if x298001 = 0 then (none) else (if (wrap64 (x290000 * (wrap64 (Int.tdiv x18 x290001)))) ≤ (wrap64 (x16 * x18)) then (if (wrap64 (x298000 * (wrap64 (Int.tdiv x18 x298001)))) ≤ (wrap64 ((wrap64 (x290000 * (wrap64 (Int.tdiv x18 x290001)))) + (wrap64 (x294000 * (wrap64 (Int.tdiv x18 x294001)))))) then ((shapesearchlaw12_awake.f k).bind fun t304 => (some t304)) else (if (wrap64 ((wrap64 ((wrap64 ((wrap64 (x298000 * (wrap64 (Int.tdiv x18 x298001)))) - (wrap64 (x290000 * (wrap64 (Int.tdiv x18 x290001)))))) - (wrap64 (x294000 * (wrap64 (Int.tdiv x18 x294001)))))) * (wrap64 ((wrap64 ((wrap64 (x298000 * (wrap64 (Int.tdiv x18 x298001)))) - (wrap64 (x290000 * (wrap64 (Int.tdiv x18 x290001)))))) - (wrap64 (x294000 * (wrap64 (Int.tdiv x18 x294001)))))))) ≤ (wrap64 ((wrap64 (4 * (wrap64 (x290000 * (wrap64 (Int.tdiv x18 x290001)))))) * (wrap64 (x294000 * (wrap64 (Int.tdiv x18 x294001)))))) then ((shapesearchlaw12_awake.f k).bind fun t305 => (some t305)) else (some false))) else (some false)))))
end
def shapesearchlaw12_EuclidRoots.f (k : Nat) (l0 : List Int) : Option (Bool) := (shapesearchkeep_New.f l0).bind fun bt266 => ((shapesearchkeep_Src_Pair.f k bt266.1 bt266.2).bind fun bt269 => ((shapesearchkeep_Src_Near.f k bt266.1 bt269.2.2 bt269.2.1).bind fun bt276 => (shapesearchlaw12_EuclidRoots.l0 k bt269.1 bt269.2.1 bt276.1 (bt269.1.length : Int) 0)))
theorem shapesearchlaw12_EuclidRoots.mono_l : ∀ k, (∀ y0 y1 y2 y3 y4, LeO (shapesearchlaw12_EuclidRoots.l0 k y0 y1 y2 y3 y4) (shapesearchlaw12_EuclidRoots.l0 (k + 1) y0 y1 y2 y3 y4)) ∧ (∀ y0 y1 y2 y3 y4 y5 y6 y7 y8, LeO (shapesearchlaw12_EuclidRoots.j1 k y0 y1 y2 y3 y4 y5 y6 y7 y8) (shapesearchlaw12_EuclidRoots.j1 (k + 1) y0 y1 y2 y3 y4 y5 y6 y7 y8))
  | 0 => ⟨fun _ _ _ _ _ r h => by simp [shapesearchlaw12_EuclidRoots.l0] at h, fun _ _ _ _ _ _ _ _ _ r h => by simp [shapesearchlaw12_EuclidRoots.j1] at h⟩
  | k + 1 => by
    obtain ⟨ih0, ih1⟩ := shapesearchlaw12_EuclidRoots.mono_l k
    refine ⟨?_, ?_⟩
    · intro y0 y1 y2 y3 y4
      unfold shapesearchlaw12_EuclidRoots.l0
      repeat' first
      | (with_reducible exact ih0 _ _ _ _ _)
      | (with_reducible exact ih1 _ _ _ _ _ _ _ _ _)
      | (with_reducible exact euclid_Distance.mono _ _ _)
      | (with_reducible exact euclid_Shifted.mono _ _ _)
      | (with_reducible exact shapesearchkeep_Src_Near.mono _ _ _ _)
      | (with_reducible exact shapesearchkeep_Src_Pair.mono _ _ _)
      | (with_reducible exact shapesearchlaw12_awake.mono _)
      | (with_reducible exact LeO.refl _)
      | (with_reducible exact LeO.none _)
      | (with_reducible refine LeO.ite ?_ ?_)
      | (with_reducible refine LeO.bind ?_ (fun _ => ?_))
      | exact ih0 _ _ _ _ _
      | exact ih1 _ _ _ _ _ _ _ _ _
      | exact euclid_Distance.mono _ _ _
      | exact euclid_Shifted.mono _ _ _
      | exact shapesearchkeep_Src_Near.mono _ _ _ _
      | exact shapesearchkeep_Src_Pair.mono _ _ _
      | exact shapesearchlaw12_awake.mono _
      | exact LeO.none _
      | refine LeO.ite ?_ ?_
      | refine LeO.bind ?_ (fun _ => ?_)
    · intro y0 y1 y2 y3 y4 y5 y6 y7 y8
      unfold shapesearchlaw12_EuclidRoots.j1
      repeat' first
      | (with_reducible exact ih0 _ _ _ _ _)
      | (with_reducible exact ih1 _ _ _ _ _ _ _ _ _)
      | (with_reducible exact euclid_Distance.mono _ _ _)
      | (with_reducible exact euclid_Shifted.mono _ _ _)
      | (with_reducible exact shapesearchkeep_Src_Near.mono _ _ _ _)
      | (with_reducible exact shapesearchkeep_Src_Pair.mono _ _ _)
      | (with_reducible exact shapesearchlaw12_awake.mono _)
      | (with_reducible exact LeO.refl _)
      | (with_reducible exact LeO.none _)
      | (with_reducible refine LeO.ite ?_ ?_)
      | (with_reducible refine LeO.bind ?_ (fun _ => ?_))
      | exact ih0 _ _ _ _ _
      | exact ih1 _ _ _ _ _ _ _ _ _
      | exact euclid_Distance.mono _ _ _
      | exact euclid_Shifted.mono _ _ _
      | exact shapesearchkeep_Src_Near.mono _ _ _ _
      | exact shapesearchkeep_Src_Pair.mono _ _ _
      | exact shapesearchlaw12_awake.mono _
      | exact LeO.none _
      | refine LeO.ite ?_ ?_
      | refine LeO.bind ?_ (fun _ => ?_)
theorem shapesearchlaw12_EuclidRoots.mono : ∀ a0 k, LeO (shapesearchlaw12_EuclidRoots.f k a0) (shapesearchlaw12_EuclidRoots.f (k + 1) a0) := by
  intro a0 k
  obtain ⟨ih0, ih1⟩ := shapesearchlaw12_EuclidRoots.mono_l k
  unfold shapesearchlaw12_EuclidRoots.f
  repeat' first
      | (with_reducible exact ih0 _ _ _ _ _)
      | (with_reducible exact ih1 _ _ _ _ _ _ _ _ _)
      | (with_reducible exact euclid_Distance.mono _ _ _)
      | (with_reducible exact euclid_Shifted.mono _ _ _)
      | (with_reducible exact shapesearchkeep_Src_Near.mono _ _ _ _)
      | (with_reducible exact shapesearchkeep_Src_Pair.mono _ _ _)
      | (with_reducible exact shapesearchlaw12_awake.mono _)
      | (with_reducible exact LeO.refl _)
      | (with_reducible exact LeO.none _)
      | (with_reducible refine LeO.ite ?_ ?_)
      | (with_reducible refine LeO.bind ?_ (fun _ => ?_))
      | exact ih0 _ _ _ _ _
      | exact ih1 _ _ _ _ _ _ _ _ _
      | exact euclid_Distance.mono _ _ _
      | exact euclid_Shifted.mono _ _ _
      | exact shapesearchkeep_Src_Near.mono _ _ _ _
      | exact shapesearchkeep_Src_Pair.mono _ _ _
      | exact shapesearchlaw12_awake.mono _
      | exact LeO.none _
      | refine LeO.ite ?_ ?_
      | refine LeO.bind ?_ (fun _ => ?_)
def shapesearchlaw12_EuclidRoots.T7 : Bool × List (List Nat × List Nat) := (true, [([], []), ([], []), ([], []), ([], []), ([], []), ([], []), ([], []), ([], []), ([6, 7], [6, 7]), ([8], [8]), ([9], [9]), ([], []), ([], []), ([11, 12], [11, 12]), ([13], [13]), ([14], [14]), ([], []), ([], []), ([16, 17], [16, 17]), ([18], [18]), ([19], [19]), ([0, 1, 0, 1, 6, 7, 8, 9, 10, 14, 19], [0, 1]), ([21, 10, 0, 1, 6, 7, 8, 9, 10, 14, 19], [10, 21]), ([2, 3, 0, 1, 2, 3, 6, 7, 8, 9, 10, 11, 12, 13, 14, 15, 19, 21, 22], [2, 3]), ([23, 15, 22, 0, 1, 2, 3, 6, 7, 8, 9, 10, 11, 12, 13, 14, 15, 19, 21, 22], [15, 23]), ([4, 5, 0, 1, 2, 3, 4, 5, 6, 7, 8, 9, 10, 11, 12, 13, 14, 15, 16, 17, 18, 19, 20, 21, 22, 23, 24], [4, 5]), ([25, 20, 24, 0, 1, 2, 3, 4, 5, 6, 7, 8, 9, 10, 11, 12, 13, 14, 15, 16, 17, 18, 19, 20, 21, 22, 23, 24], [20, 25])])
def shapesearchlaw12_EuclidRoots.B7 : List Nat := [0, 0, 0, 0, 0, 0, 0, 0, 192, 448, 960, 0, 0, 6144, 14336, 30720, 0, 0, 196608, 458752, 983040, 1015747, 3112899, 7339983, 15728591, 33554431, 67108863]
theorem shapesearchlaw12_EuclidRoots.tab7 : rtab .any (opsOf Try.f5 7) = shapesearchlaw12_EuclidRoots.T7 := by kernel_rfl
theorem shapesearchlaw12_EuclidRoots.bits7 : waitsOk shapesearchlaw12_EuclidRoots.T7.2 shapesearchlaw12_EuclidRoots.B7 = true := by kernel_rfl
def shapesearchlaw12_EuclidRoots.T17 : Bool × List (List Nat × List Nat) := (true, [([], []), ([0], [0]), ([], []), ([], []), ([3], [3]), ([2, 4], [2, 4]), ([1, 5], [1, 5]), ([], []), ([7], [7]), ([], []), ([], []), ([10], [10]), ([9, 11], [9, 11]), ([8, 12], [8, 12]), ([], []), ([14], [14]), ([], []), ([], []), ([17], [17]), ([16, 18], [16, 18]), ([15, 19], [15, 19]), ([6, 0, 1, 2, 3, 4, 5, 6], [6]), ([13, 21, 0, 1, 2, 3, 4, 5, 6, 7, 8, 9, 10, 11, 12, 13, 21], [13]), ([20, 22, 0, 1, 2, 3, 4, 5, 6, 7, 8, 9, 10, 11, 12, 13, 14, 15, 16, 17, 18, 19, 20, 21, 22], [20])])
def shapesearchlaw12_EuclidRoots.B17 : List Nat := [0, 1, 0, 0, 8, 28, 63, 0, 128, 0, 0, 1024, 3584, 8064, 0, 16384, 0, 0, 131072, 458752, 1032192, 127, 2113535, 8388607]
theorem shapesearchlaw12_EuclidRoots.tab17 : rtab .any (opsOf Try.f5 17) = shapesearchlaw12_EuclidRoots.T17 := by kernel_rfl
theorem shapesearchlaw12_EuclidRoots.bits17 : waitsOk shapesearchlaw12_EuclidRoots.T17.2 shapesearchlaw12_EuclidRoots.B17 = true := by kernel_rfl
set_option maxHeartbeats 8000000 in
set_option maxRecDepth 100000 in
theorem shapesearchlaw12_EuclidRoots.calls (k : Nat) (A0 : Option Addr) (c0 : Nat) (l0 : List Int) (r : Bool) (w : World) (hr0 : Kd.C (Kd.int .i64) w A0 l0.length l0) (hc0 : l0.length ≤ c0) (h : shapesearchlaw12_EuclidRoots.f k l0 = some r) :
    Calls Try.prog 5 #[.slice A0 l0.length c0] w fun e w' => e = .returned (.bool r) ∧ Below w.heap.size w w' := by
  have hu37 := Try.underlying37
  have HR0 := Aside0.mk hr0
  have HC0 := Aside0.mk hc0
  clear hr0 hc0
  have HB := Aside0.mk (Below.refl w.heap.size w)
  have H : ((shapesearchkeep_New.f l0).bind fun bt266 => ((shapesearchkeep_Src_Pair.f k bt266.1 bt266.2).bind fun bt269 => ((shapesearchkeep_Src_Near.f k bt266.1 bt269.2.2 bt269.2.1).bind fun bt276 => (shapesearchlaw12_EuclidRoots.l0 k bt269.1 bt269.2.1 bt276.1 (bt269.1.length : Int) 0)))) = some r := h
  clear h
  replace H := Option.bind_eq_some_iff.mp H
  obtain ⟨⟨t266, t267⟩, A20, H⟩ := H
  replace H : ((shapesearchkeep_Src_Pair.f k t266 t267).bind fun bt269 => ((shapesearchkeep_Src_Near.f k t266 bt269.2.2 bt269.2.1).bind fun bt276 => (shapesearchlaw12_EuclidRoots.l0 k bt269.1 bt269.2.1 bt276.1 (bt269.1.length : Int) 0))) = some r := H
  have A2 := Aside0.mk A20
  clear A20
  replace H := Option.bind_eq_some_iff.mp H
  obtain ⟨⟨t269, t272, t275⟩, A30, H⟩ := H
  replace H : ((shapesearchkeep_Src_Near.f k t266 t275 t272).bind fun bt276 => (shapesearchlaw12_EuclidRoots.l0 k t269 t272 bt276.1 (t269.length : Int) 0)) = some r := H
  have A3 := Aside0.mk A30
  clear A30
  replace H := Option.bind_eq_some_iff.mp H
  obtain ⟨⟨t276, t279⟩, A40, H⟩ := H
  replace H : (shapesearchlaw12_EuclidRoots.l0 k t269 t272 t276 (t269.length : Int) 0) = some r := H
  have A4 := Aside0.mk A40
  clear A40
  have H' := Aside0.mk H
  clear H
  go_enter Try.func5, Try.ntmps5
  go_wp2_with (first | ((with_reducible refine gate_callee (f := 9) rfl ?_); refine goesL_ (some 23) rfl rfl Try.func9 (by kernel_rfl) rfl #[.slice A0 l0.length c0] rfl (by (try simp only [List.map_toArray, List.map_cons, List.map_nil]); first | done | rfl | (simp only [List.length_drop, List.length_take]; rfl)) ?_; (with_reducible refine (shapesearchkeep_New.calls _ _ l0 t266 t267 w _ ?side1 ?side2 ?side3 A2.out).mono ?_); (case side1 => repeat (first | (with_reducible first | exact HB.out | apply below_alloc | apply pw_below_drewN | apply below_drew1) | exact HB.out)); (case side2 => exact HR0.out); (case side3 => exact HC0.out); rintro e w5 ⟨g268, rfl, hi, hb, hb2⟩; refine ⟨_, rfl, ?_⟩; have n0_ := Aside0.mk (hb); have n1_ := Aside0.mk (hi); clear HB; have HB := n0_; have HI268 := n1_; clear n0_ n1_; (try clear hb); (try clear hb2); (try clear hk); (try clear hi)) | ((with_reducible refine gate_callee (f := 10) rfl ?_); refine goesL_ (some 26) rfl rfl Try.func10 (by kernel_rfl) rfl #[.pointer (some ⟨g268, 0, none⟩)] rfl (by (try simp only [List.map_toArray, List.map_cons, List.map_nil]); first | done | rfl | (simp only [List.length_drop, List.length_take]; rfl)) ?_; (with_reducible refine (shapesearchkeep_Src_Pair.calls k g268 t266 t267 t269 t272 t275 w _ ?side1 ?side2 A3.out).mono ?_); (case side1 => repeat (first | (with_reducible first | exact HI268.out | apply IsS56.alloc | apply IsS56.drewN | apply IsS56.drew | apply IsS56.set_1) | exact HI268.out)); (case side2 => repeat (first | (with_reducible first | exact HB.out | apply below_alloc | apply pw_below_drewN | apply below_drew1 | refine below_set ?_ (IsS56.ge HI268.out)) | exact HB.out)); rintro e w6 ⟨v270, v273, rfl, ho0, ho1, hi, hb, hk⟩; refine ⟨_, rfl, ?_⟩; have n0_ := Aside0.mk (Kd.R_lower ho0 (below_size (by repeat (first | (with_reducible first | exact HB.out | apply below_alloc | apply pw_below_drewN | apply below_drew1 | refine below_set ?_ (IsS56.ge HI268.out)) | exact HB.out)))); have n1_ := Aside0.mk (Kd.R_lower ho1 (below_size (by repeat (first | (with_reducible first | exact HB.out | apply below_alloc | apply pw_below_drewN | apply below_drew1 | refine below_set ?_ (IsS56.ge HI268.out)) | exact HB.out)))); have n2_ := Aside0.mk (hb); have n3_ := Aside0.mk (hi); clear HB; clear HI268; have HO271 := n0_; have HO274 := n1_; have HB := n2_; have HI268 := n3_; clear n0_ n1_ n2_ n3_; (try clear hb); (try clear hb2); (try clear hk); (try clear hi); (try clear ho0); (try clear ho1); obtain ⟨Ao7, co7, eo7⟩ := Kd.R_slice HO274.out; subst eo7) | ((with_reducible refine gate_callee (f := 11) rfl ?_); refine goesL_ (some 31) rfl rfl Try.func11 (by kernel_rfl) rfl #[.pointer (some ⟨g268, 0, none⟩), .slice Ao7 t272.length co7] rfl (by (try simp only [List.map_toArray, List.map_cons, List.map_nil]); first | done | rfl | (simp only [List.length_drop, List.length_take]; rfl)) ?_; (with_reducible refine (shapesearchkeep_Src_Near.calls k g268 t266 t275 _ _ t272 t276 t279 w _ ?side1 ?side2 ?side3 ?side4 ?side5 A4.out).mono ?_); (case side1 => repeat (first | (with_reducible first | exact HI268.out | apply IsS56.alloc | apply IsS56.drewN | apply IsS56.drew | apply IsS56.set_1) | exact HI268.out)); (case side2 => repeat (first | (with_reducible first | exact HB.out | apply below_alloc | apply pw_below_drewN | apply below_drew1 | refine below_set ?_ (IsS56.ge HI268.out)) | exact HB.out)); (case side3 => repeat (first | exact (Kd.R_reads' HO274.out).2.2 | (with_reducible refine Kd.C_alloc ?_ _) | (with_reducible refine Kd.C_drewN ?_ _) | (with_reducible refine Kd.C_drew ?_))); (case side4 => exact (Kd.R_reads' HO274.out).2.1); (case side5 => exact far_slice (IsS56.own_ne HI268.out HO274.out (by decide))); rintro e w8 ⟨v277, rfl, ho0, hi, hb, hk⟩; refine ⟨_, rfl, ?_⟩; have n0_ := Aside0.mk (Kd.R_mono (Kd.R_told (Kd.R_oldK (IsS56.apart (show IsS56 w _ g268 t266 t275 from by repeat (first | (with_reducible first | exact HI268.out | apply IsS56.alloc | apply IsS56.drewN | apply IsS56.drew | apply IsS56.set_1) | exact HI268.out)) (by (with_reducible repeat (first | apply Kd.R_alloc | apply Kd.R_drewN | apply Kd.R_drew)); exact HO271.out) (by decide)) hk) (Kd.R_base ho0)) (fun _ h_ => h_.1)); have n1_ := Aside0.mk (Kd.R_mono (Kd.R_told (Kd.R_oldK (IsS56.apart (show IsS56 w _ g268 t266 t275 from by repeat (first | (with_reducible first | exact HI268.out | apply IsS56.alloc | apply IsS56.drewN | apply IsS56.drew | apply IsS56.set_1) | exact HI268.out)) (by (with_reducible repeat (first | apply Kd.R_alloc | apply Kd.R_drewN | apply Kd.R_drew)); exact HO274.out) (by decide)) hk) (Kd.R_base ho0)) (fun _ h_ => h_.1)); have n2_ := Aside0.mk (Kd.R_lower (Kd.R_new' (Kd.R_new' ho0 (Kd.R_lt (by (with_reducible repeat (first | apply Kd.R_alloc | apply Kd.R_drewN | apply Kd.R_drew)); exact HO271.out))) (Kd.R_lt (by (with_reducible repeat (first | apply Kd.R_alloc | apply Kd.R_drewN | apply Kd.R_drew)); exact HO274.out))) (below_size (by repeat (first | (with_reducible first | exact HB.out | apply below_alloc | apply pw_below_drewN | apply below_drew1 | refine below_set ?_ (IsS56.ge HI268.out)) | exact HB.out)))); have n3_ := Aside0.mk (hb); have n4_ := Aside0.mk (hi); clear HO271; clear HO274; clear HB; clear HI268; have HO271 := n0_; have HO274 := n1_; have HO278 := n2_; have HB := n3_; have HI268 := n4_; clear n0_ n1_ n2_ n3_ n4_; (try clear hb); (try clear hb2); (try clear hk); (try clear hi); (try clear ho0); obtain ⟨Ao9, co9, eo9⟩ := Kd.R_slice HO271.out; subst eo9))
  go_loopg [34] k (fun kq v34 w' => ∃ (x4_1 : List Int) (x5_1 : List Int) (x6_1 : List Int) (x34_1 : Int), v34 = .int .i64 x34_1 ∧ Aside0 (shapesearchlaw12_EuclidRoots.l0 kq x4_1 x5_1 x6_1 (t269.length : Int) x34_1 = some r) ∧ Aside0 (kq ≤ k) ∧ Aside0 (Kd.R (Kd.int .i64) 3 w' w.heap.size (fun k_ => some k_ ≠ ((.slice Ao7 t272.length co7) : Value).ownBlock ∧ some k_ ≠ (v277 : Value).ownBlock) (.slice Ao9 t269.length co9) x4_1) ∧ Aside0 (Kd.R (Kd.int .i64) 3 w' w.heap.size (fun k_ => some k_ ≠ ((.slice Ao9 t269.length co9) : Value).ownBlock ∧ some k_ ≠ (v277 : Value).ownBlock) (.slice Ao7 t272.length co7) x5_1) ∧ Aside0 (Kd.R (Kd.int .i64) 3 w' w.heap.size (fun k_ => some k_ ≠ ((.slice Ao9 t269.length co9) : Value).ownBlock ∧ some k_ ≠ ((.slice Ao7 t272.length co7) : Value).ownBlock) v277 x6_1) ∧ Aside0 (Below w.heap.size w w'))
  case atStart => exact ⟨(t269), (t272), (t276), (0), (by first | rfl | (simp; done) | (simp [*]; done)), H', ⟨Nat.le_refl _⟩, ⟨by (with_reducible repeat (first | apply Kd.R_alloc | apply Kd.R_drewN | apply Kd.R_drew)); exact HO271.out⟩, ⟨by (with_reducible repeat (first | apply Kd.R_alloc | apply Kd.R_drewN | apply Kd.R_drew)); exact HO274.out⟩, ⟨by (with_reducible repeat (first | apply Kd.R_alloc | apply Kd.R_drewN | apply Kd.R_drew)); exact Kd.R_mono HO278.out (fun _ hk => ⟨hk.1.2, hk.2⟩)⟩, ⟨by repeat (first | (with_reducible first | exact HB.out | apply below_alloc | apply pw_below_drewN | apply below_drew1 | refine below_set ?_ (IsS56.ge HI268.out)) | exact HB.out)⟩⟩
  case round =>
    clear H'
    try clear c1
    try clear p2
    try clear c5
    try clear c9
    obtain ⟨x4_1, x5_1, x6_1, x34_1, rfl, HA, HK1, HO_4, HO_5, HO_6, HB⟩ := hrel
    have hl4_1 := (Kd.R_reads' HO_4.out).1
    rw [hl4_1] at HO_4
    (try simp only [hl4_1])
    (try simp only [hl4_1] at HO_5)
    (try simp only [hl4_1] at HO_6)
    have hl5_1 := (Kd.R_reads' HO_5.out).1
    rw [hl5_1] at HO_5
    (try simp only [hl5_1])
    (try simp only [hl5_1] at HO_4)
    (try simp only [hl5_1] at HO_6)
    cases gk with
    | zero => exact absurd HA.out (by simp [shapesearchlaw12_EuclidRoots.l0])
    | succ k1 =>
      have H := HA.out
      clear HA
      simp only [shapesearchlaw12_EuclidRoots.l0] at H
      by_cases c10 : x34_1 < (t269.length : Int)
      · rw [if_pos c10] at H
        have c10b0 : decide (x34_1 < (t269.length : Int)) = true := decide_eq_true c10
        (try (have c10b0h := c10b0; simp only [hl4_1, hl5_1] at c10b0h))
        clear c10
        by_cases c11 : 0 ≤ x34_1
        · rw [if_pos c11] at H
          have c11b0 : decide (0 ≤ x34_1) = true := decide_eq_true c11
          clear c11
          by_cases c12 : x34_1 < (x4_1.length : Int)
          · rw [if_pos c12] at H
            have c12b0 : decide (x34_1 < (x4_1.length : Int)) = true := decide_eq_true c12
            (try (have c12b0h := c12b0; simp only [hl4_1, hl5_1] at c12b0h))
            clear c12
            by_cases c13 : x34_1 < (x5_1.length : Int)
            · rw [if_pos c13] at H
              have c13b0 : decide (x34_1 < (x5_1.length : Int)) = true := decide_eq_true c13
              (try (have c13b0h := c13b0; simp only [hl4_1, hl5_1] at c13b0h))
              clear c13
              by_cases c14 : x34_1 < (x6_1.length : Int)
              · rw [if_pos c14] at H
                have c14b0 : decide (x34_1 < (x6_1.length : Int)) = true := decide_eq_true c14
                (try (have c14b0h := c14b0; simp only [hl4_1, hl5_1] at c14b0h))
                clear c14
                obtain ⟨y283, hy283⟩ : ∃ y_ : List Int, y_ = (x4_1.set (x34_1 : Int).toNat (wrap64 (Int.tdiv (rd x4_1 x34_1) 5))) := ⟨_, rfl⟩
                replace H : (shapesearchlaw12_EuclidRoots.l0 k1 y283 (x5_1.set (x34_1 : Int).toNat (wrap64 (Int.tdiv (rd x5_1 x34_1) 5))) (x6_1.set (x34_1 : Int).toNat (wrap64 (Int.tdiv (rd x6_1 x34_1) 5))) (t269.length : Int) (wrap64 (x34_1 + 1))) = some r := by first | (rw [hy283]; with_reducible exact H) | (have H2_ := (Option.bind_some _ _).symm.trans H; rw [hy283]; with_reducible exact H2_) | (have H2_ := (Option.bind_some _ _).symm.trans H; with_reducible exact H2_) | with_reducible exact H | (rw [hy283]; exact H) | exact H
                have Ny283 := Aside0.mk hy283
                clear hy283
                obtain ⟨y284, hy284⟩ : ∃ y_ : List Int, y_ = (x5_1.set (x34_1 : Int).toNat (wrap64 (Int.tdiv (rd x5_1 x34_1) 5))) := ⟨_, rfl⟩
                replace H : (shapesearchlaw12_EuclidRoots.l0 k1 y283 y284 (x6_1.set (x34_1 : Int).toNat (wrap64 (Int.tdiv (rd x6_1 x34_1) 5))) (t269.length : Int) (wrap64 (x34_1 + 1))) = some r := by first | (rw [hy284]; with_reducible exact H) | (have H2_ := (Option.bind_some _ _).symm.trans H; rw [hy284]; with_reducible exact H2_) | (have H2_ := (Option.bind_some _ _).symm.trans H; with_reducible exact H2_) | with_reducible exact H | (rw [hy284]; exact H) | exact H
                have Ny284 := Aside0.mk hy284
                clear hy284
                obtain ⟨y285, hy285⟩ : ∃ y_ : List Int, y_ = (x6_1.set (x34_1 : Int).toNat (wrap64 (Int.tdiv (rd x6_1 x34_1) 5))) := ⟨_, rfl⟩
                replace H : (shapesearchlaw12_EuclidRoots.l0 k1 y283 y284 y285 (t269.length : Int) (wrap64 (x34_1 + 1))) = some r := by first | (rw [hy285]; with_reducible exact H) | (have H2_ := (Option.bind_some _ _).symm.trans H; rw [hy285]; with_reducible exact H2_) | (have H2_ := (Option.bind_some _ _).symm.trans H; with_reducible exact H2_) | with_reducible exact H | (rw [hy285]; exact H) | exact H
                have Ny285 := Aside0.mk hy285
                clear hy285
                have H' := Aside0.mk H
                clear H
                try go_wp2
                have n0_ := Aside0.mk (Kd.R_drew HO_4.out)
                have n1_ := Aside0.mk (Kd.R_drew HO_5.out)
                have n2_ := Aside0.mk (Kd.R_drew HO_6.out)
                have n3_ := Aside0.mk (below_drew1 HB.out)
                clear HO_4
                clear HO_5
                clear HO_6
                clear HB
                have HO_4 := n0_
                have HO_5 := n1_
                have HO_6 := n2_
                have HB := n3_
                clear n0_ n1_ n2_ n3_
                have p280 : 0 ≤ (x34_1 : Int) := of_decide_eq_true (by first | (with_reducible assumption) | assumption)
                have q280 : x34_1 < (x4_1.length : Int) := of_decide_eq_true (by first | (with_reducible assumption) | assumption)
                obtain ⟨ad280, e280, hx280_0⟩ := Kd.at_int (Kd.R_reads' HO_4.out).2.2 x34_1 p280 q280
                cases e280
                replace p280 := eq_true p280
                replace q280 := eq_true q280
                have p281 : 0 ≤ (x34_1 : Int) := of_decide_eq_true (by first | (with_reducible assumption) | assumption)
                have q281 : x34_1 < (x5_1.length : Int) := of_decide_eq_true (by first | (with_reducible assumption) | assumption)
                obtain ⟨ad281, e281, hx281_0⟩ := Kd.at_int (Kd.R_reads' HO_5.out).2.2 x34_1 p281 q281
                cases e281
                replace p281 := eq_true p281
                replace q281 := eq_true q281
                obtain ⟨Ao19, co19, eo19⟩ := Kd.R_slice HO_6.out
                (first | subst eo19 | (injection eo19 with f1_ f2_ f3_; have f4_ := f1_.symm; have f5_ := f3_.symm; clear f1_ f2_ f3_; subst f4_; subst f5_))
                have p282 : 0 ≤ (x34_1 : Int) := of_decide_eq_true (by first | (with_reducible assumption) | assumption)
                have q282 : x34_1 < (x6_1.length : Int) := of_decide_eq_true (by first | (with_reducible assumption) | assumption)
                obtain ⟨ad282, e282, hx282_0⟩ := Kd.at_int (Kd.R_reads' HO_6.out).2.2 x34_1 p282 q282
                cases e282
                replace p282 := eq_true p282
                replace q282 := eq_true q282
                have p15 : 0 ≤ (x34_1 : Int) := of_decide_eq_true (by first | (with_reducible assumption) | assumption)
                have q15 : (x34_1 : Int) < ((x4_1.length : Int) : Int) := of_decide_eq_true (by first | (with_reducible assumption) | assumption)
                obtain ⟨go15, co15, eo15, gb15, gl15, cl15, HG15⟩ := Kd.R_form HO_4.out (by omega)
                (first | cases eo15 | (injection eo15 with ea_ en_ ec_; (first | subst ea_ | (injection ea_ with ea_; subst ea_)); subst ec_; clear en_))
                have GB15 := Aside0.mk gb15
                have GG15 := Aside0.mk HG15
                clear gb15 gl15 HG15
                (first | simp only [add_plain] at hx280_0 | skip)
                obtain ⟨hx15_0, hf15_0⟩ := Kd.R_celln 0 HO_4.out (x34_1 : Int) p15 q15
                replace p15 := eq_true p15
                replace q15 := eq_true q15
                have HP20 := Kd.R_putn HO_4.out (x34_1 : Int) (wrap64 (Int.tdiv (rd x4_1 x34_1) 5))
                rw [← Ny283.out] at HP20
                have HQ20 := Aside0.mk HP20
                clear HP20
                have p16 : 0 ≤ (x34_1 : Int) := of_decide_eq_true (by first | (with_reducible assumption) | assumption)
                have q16 : (x34_1 : Int) < ((x5_1.length : Int) : Int) := of_decide_eq_true (by first | (with_reducible assumption) | assumption)
                obtain ⟨go16, co16, eo16, gb16, gl16, cl16, HG16⟩ := Kd.R_form HO_5.out (by omega)
                (first | cases eo16 | (injection eo16 with ea_ en_ ec_; (first | subst ea_ | (injection ea_ with ea_; subst ea_)); subst ec_; clear en_))
                have GB16 := Aside0.mk gb16
                have GG16 := Aside0.mk HG16
                clear gb16 gl16 HG16
                (first | simp only [add_plain] at hx281_0 | skip)
                obtain ⟨hx16_0, hf16_0⟩ := Kd.R_celln 0 (Kd.R_far (p := ⟨go15, (x34_1 : Int).toNat, none⟩) (Kd.R_mono HO_5.out (fun k_ hk => (⟨hk, fun e_ => hk.1 (by rw [e_]; rfl)⟩ : _ ∧ k_ ≠ go15))) (fun _ hk => hk.2) (.int .i64 (wrap64 (Int.tdiv (rd x4_1 x34_1) 5)))) (x34_1 : Int) p16 q16
                replace p16 := eq_true p16
                replace q16 := eq_true q16
                have HP21 := Kd.R_putn (Kd.R_far (p := ⟨go15, (x34_1 : Int).toNat, none⟩) (Kd.R_mono HO_5.out (fun k_ hk => (⟨hk, fun e_ => hk.1 (by rw [e_]; rfl)⟩ : _ ∧ k_ ≠ go15))) (fun _ hk => hk.2) (.int .i64 (wrap64 (Int.tdiv (rd x4_1 x34_1) 5)))) (x34_1 : Int) (wrap64 (Int.tdiv (rd x5_1 x34_1) 5))
                rw [← Ny284.out] at HP21
                have HQ21 := Aside0.mk HP21
                clear HP21
                have p17 : 0 ≤ (x34_1 : Int) := of_decide_eq_true (by first | (with_reducible assumption) | assumption)
                have q17 : (x34_1 : Int) < ((x6_1.length : Int) : Int) := of_decide_eq_true (by first | (with_reducible assumption) | assumption)
                obtain ⟨go17, co17, eo17, gb17, gl17, cl17, HG17⟩ := Kd.R_form HO_6.out (by omega)
                (first | cases eo17 | (injection eo17 with ea_ en_ ec_; (first | subst ea_ | (injection ea_ with ea_; subst ea_)); subst ec_; clear en_))
                have GB17 := Aside0.mk gb17
                have GG17 := Aside0.mk HG17
                clear gb17 gl17 HG17
                (first | simp only [add_plain] at hx282_0 | skip)
                obtain ⟨hx17_0, hf17_0⟩ := Kd.R_celln 0 (Kd.R_far (p := ⟨go16, (x34_1 : Int).toNat, none⟩) (Kd.R_far (p := ⟨go15, (x34_1 : Int).toNat, none⟩) (Kd.R_mono (Kd.R_mono HO_6.out (fun k_ hk => (⟨hk, fun e_ => hk.1 (by rw [e_]; rfl)⟩ : _ ∧ k_ ≠ go15))) (fun k_ hk => (⟨hk, fun e_ => hk.1.2 (by rw [e_]; rfl)⟩ : _ ∧ k_ ≠ go16))) (fun _ hk => hk.1.2) (.int .i64 (wrap64 (Int.tdiv (rd x4_1 x34_1) 5)))) (fun _ hk => hk.2) (.int .i64 (wrap64 (Int.tdiv (rd x5_1 x34_1) 5)))) (x34_1 : Int) p17 q17
                replace p17 := eq_true p17
                replace q17 := eq_true q17
                have HP22 := Kd.R_putn (Kd.R_far (p := ⟨go16, (x34_1 : Int).toNat, none⟩) (Kd.R_far (p := ⟨go15, (x34_1 : Int).toNat, none⟩) (Kd.R_mono (Kd.R_mono HO_6.out (fun k_ hk => (⟨hk, fun e_ => hk.1 (by rw [e_]; rfl)⟩ : _ ∧ k_ ≠ go15))) (fun k_ hk => (⟨hk, fun e_ => hk.1.2 (by rw [e_]; rfl)⟩ : _ ∧ k_ ≠ go16))) (fun _ hk => hk.1.2) (.int .i64 (wrap64 (Int.tdiv (rd x4_1 x34_1) 5)))) (fun _ hk => hk.2) (.int .i64 (wrap64 (Int.tdiv (rd x5_1 x34_1) 5)))) (x34_1 : Int) (wrap64 (Int.tdiv (rd x6_1 x34_1) 5))
                rw [← Ny285.out] at HP22
                have HQ22 := Aside0.mk HP22
                clear HP22
                refine start_ (n := 27) (S := fun w' => w'.cell? ⟨go15, (x34_1).toNat, none⟩ = some (.int .i64 (rd x4_1 x34_1)) ∧ w'.cell? ⟨go16, (x34_1).toNat, none⟩ = some (.int .i64 (rd x5_1 x34_1)) ∧ w'.cell? ⟨go17, (x34_1).toNat, none⟩ = some (.int .i64 (rd x6_1 x34_1))) (ds := [22, 24, 26]) #[false, false, false, false, false, false, false, false, false, false, false, false, false, false, false, false, false, false, false, false, false, false, false, false, false, false, false] (by kernel_rfl) rfl rfl ⟨hx280_0, hx281_0, hx282_0⟩ (fun hHeld => ?_); refine with_tabW shapesearchlaw12_EuclidRoots.tab7 shapesearchlaw12_EuclidRoots.bits7 (fun HT_ HW_ => ?_)
                generalize wr.drew = w18 at HO_4 HO_5 HO_6 HB GG15 GG16 GG17 HQ20 HQ21 HQ22 hf15_0 hf16_0 hf17_0 hx15_0 hx16_0 hx17_0 hx280_0 hx281_0 hx282_0 hHeld ⊢
                refine pure_ (i := 0) (N := some 37) (v := ?_) (a' := ?_) #[true, false, false, false, false, false, false, false, false, false, false, false, false, false, false, false, false, false, false, false, false, false, false, false, false, false, false] rfl rfl (any_of HT_.out (by kernel_rfl)) (fun _ _ _ h => h) (Or.inl ⟨by rfl, ?_⟩) ?_ ?_
                rotate_left
                · intro w'
                  go_simp
                  with_reducible rfl
                rotate_left
                · simp only [Act.put, List.setIfInBounds_toArray, List.set_cons_zero, List.set_cons_succ, i64_w, i32_w]
                  rfl
                refine pure_ (i := 1) (N := some 38) (v := ?_) (a' := ?_) #[true, true, false, false, false, false, false, false, false, false, false, false, false, false, false, false, false, false, false, false, false, false, false, false, false, false, false] rfl rfl (any_of HT_.out (by kernel_rfl)) (fun _ _ _ h => h) (Or.inl ⟨by rfl, ?_⟩) ?_ ?_
                rotate_left
                · intro w'
                  go_simp
                  with_reducible rfl
                rotate_left
                · simp only [Act.put, List.setIfInBounds_toArray, List.set_cons_zero, List.set_cons_succ, i64_w, i32_w]
                  rfl
                refine pure_ (i := 2) (N := some 39) (v := ?_) (a' := ?_) #[true, true, true, false, false, false, false, false, false, false, false, false, false, false, false, false, false, false, false, false, false, false, false, false, false, false, false] rfl rfl (any_of HT_.out (by kernel_rfl)) (fun _ _ _ h => h) (Or.inl ⟨by rfl, ?_⟩) ?_ ?_
                rotate_left
                · intro w'
                  go_simp
                  with_reducible rfl
                rotate_left
                · simp only [Act.put, List.setIfInBounds_toArray, List.set_cons_zero, List.set_cons_succ, i64_w, i32_w]
                  rfl
                refine pure_ (i := 3) (N := some 40) (v := ?_) (a' := ?_) #[true, true, true, true, false, false, false, false, false, false, false, false, false, false, false, false, false, false, false, false, false, false, false, false, false, false, false] rfl rfl (any_of HT_.out (by kernel_rfl)) (fun _ _ _ h => h) (Or.inl ⟨by rfl, ?_⟩) ?_ ?_
                rotate_left
                · intro w'
                  go_simp
                  with_reducible rfl
                rotate_left
                · simp only [Act.put, List.setIfInBounds_toArray, List.set_cons_zero, List.set_cons_succ, i64_w, i32_w]
                  rfl
                refine pure_ (i := 4) (N := some 41) (v := ?_) (a' := ?_) #[true, true, true, true, true, false, false, false, false, false, false, false, false, false, false, false, false, false, false, false, false, false, false, false, false, false, false] rfl rfl (any_of HT_.out (by kernel_rfl)) (fun _ _ _ h => h) (Or.inl ⟨by rfl, ?_⟩) ?_ ?_
                rotate_left
                · intro w'
                  go_simp
                  with_reducible rfl
                rotate_left
                · simp only [Act.put, List.setIfInBounds_toArray, List.set_cons_zero, List.set_cons_succ, i64_w, i32_w]
                  rfl
                refine pure_ (i := 5) (N := some 42) (v := ?_) (a' := ?_) #[true, true, true, true, true, true, false, false, false, false, false, false, false, false, false, false, false, false, false, false, false, false, false, false, false, false, false] rfl rfl (any_of HT_.out (by kernel_rfl)) (fun _ _ _ h => h) (Or.inl ⟨by rfl, ?_⟩) ?_ ?_
                rotate_left
                · intro w'
                  go_simp
                  with_reducible rfl
                rotate_left
                · simp only [Act.put, List.setIfInBounds_toArray, List.set_cons_zero, List.set_cons_succ, i64_w, i32_w]
                  rfl
                refine pure_ (i := 6) (N := some 43) (v := ?_) (a' := ?_) #[true, true, true, true, true, true, true, false, false, false, false, false, false, false, false, false, false, false, false, false, false, false, false, false, false, false, false] rfl rfl (any_of HT_.out (by kernel_rfl)) (fun _ _ _ h => h) (Or.inl ⟨by rfl, ?_⟩) ?_ ?_
                rotate_left
                · intro w'
                  go_simp
                  with_reducible rfl
                rotate_left
                · simp only [Act.put, List.setIfInBounds_toArray, List.set_cons_zero, List.set_cons_succ, i64_w, i32_w]
                  rfl
                refine pure_ (i := 7) (N := some 44) (v := ?_) (a' := ?_) #[true, true, true, true, true, true, true, true, false, false, false, false, false, false, false, false, false, false, false, false, false, false, false, false, false, false, false] rfl rfl (any_of HT_.out (by kernel_rfl)) (fun _ _ _ h => h) (Or.inl ⟨by rfl, ?_⟩) ?_ ?_
                rotate_left
                · intro w'
                  go_simp
                  with_reducible rfl
                rotate_left
                · simp only [Act.put, List.setIfInBounds_toArray, List.set_cons_zero, List.set_cons_succ, i64_w, i32_w]
                  rfl
                refine pure_ (i := 8) (N := some 45) (v := ?_) (a' := ?_) #[true, true, true, true, true, true, true, true, true, false, false, false, false, false, false, false, false, false, false, false, false, false, false, false, false, false, false] rfl rfl (any_of HT_.out (by kernel_rfl)) (fun _ _ _ h => h) (Or.inl ⟨by rfl, ?_⟩) ?_ ?_
                rotate_left
                · intro w'
                  go_simp
                  with_reducible rfl
                rotate_left
                · simp only [Act.put, List.setIfInBounds_toArray, List.set_cons_zero, List.set_cons_succ, i64_w, i32_w]
                  rfl
                refine pure_ (i := 11) (N := some 48) (v := ?_) (a' := ?_) #[true, true, true, true, true, true, true, true, true, false, false, true, false, false, false, false, false, false, false, false, false, false, false, false, false, false, false] rfl rfl (any_of HT_.out (by kernel_rfl)) (fun _ _ _ h => h) (Or.inl ⟨by rfl, ?_⟩) ?_ ?_
                rotate_left
                · intro w'
                  go_simp
                  with_reducible rfl
                rotate_left
                · simp only [Act.put, List.setIfInBounds_toArray, List.set_cons_zero, List.set_cons_succ, i64_w, i32_w]
                  rfl
                refine pure_ (i := 12) (N := some 49) (v := ?_) (a' := ?_) #[true, true, true, true, true, true, true, true, true, false, false, true, true, false, false, false, false, false, false, false, false, false, false, false, false, false, false] rfl rfl (any_of HT_.out (by kernel_rfl)) (fun _ _ _ h => h) (Or.inl ⟨by rfl, ?_⟩) ?_ ?_
                rotate_left
                · intro w'
                  go_simp
                  with_reducible rfl
                rotate_left
                · simp only [Act.put, List.setIfInBounds_toArray, List.set_cons_zero, List.set_cons_succ, i64_w, i32_w]
                  rfl
                refine pure_ (i := 13) (N := some 50) (v := ?_) (a' := ?_) #[true, true, true, true, true, true, true, true, true, false, false, true, true, true, false, false, false, false, false, false, false, false, false, false, false, false, false] rfl rfl (any_of HT_.out (by kernel_rfl)) (fun _ _ _ h => h) (Or.inl ⟨by rfl, ?_⟩) ?_ ?_
                rotate_left
                · intro w'
                  go_simp
                  with_reducible rfl
                rotate_left
                · simp only [Act.put, List.setIfInBounds_toArray, List.set_cons_zero, List.set_cons_succ, i64_w, i32_w]
                  rfl
                refine pure_ (i := 16) (N := some 53) (v := ?_) (a' := ?_) #[true, true, true, true, true, true, true, true, true, false, false, true, true, true, false, false, true, false, false, false, false, false, false, false, false, false, false] rfl rfl (any_of HT_.out (by kernel_rfl)) (fun _ _ _ h => h) (Or.inl ⟨by rfl, ?_⟩) ?_ ?_
                rotate_left
                · intro w'
                  go_simp
                  with_reducible rfl
                rotate_left
                · simp only [Act.put, List.setIfInBounds_toArray, List.set_cons_zero, List.set_cons_succ, i64_w, i32_w]
                  rfl
                refine pure_ (i := 17) (N := some 54) (v := ?_) (a' := ?_) #[true, true, true, true, true, true, true, true, true, false, false, true, true, true, false, false, true, true, false, false, false, false, false, false, false, false, false] rfl rfl (any_of HT_.out (by kernel_rfl)) (fun _ _ _ h => h) (Or.inl ⟨by rfl, ?_⟩) ?_ ?_
                rotate_left
                · intro w'
                  go_simp
                  with_reducible rfl
                rotate_left
                · simp only [Act.put, List.setIfInBounds_toArray, List.set_cons_zero, List.set_cons_succ, i64_w, i32_w]
                  rfl
                refine pure_ (i := 18) (N := some 55) (v := ?_) (a' := ?_) #[true, true, true, true, true, true, true, true, true, false, false, true, true, true, false, false, true, true, true, false, false, false, false, false, false, false, false] rfl rfl (any_of HT_.out (by kernel_rfl)) (fun _ _ _ h => h) (Or.inl ⟨by rfl, ?_⟩) ?_ ?_
                rotate_left
                · intro w'
                  go_simp
                  with_reducible rfl
                rotate_left
                · simp only [Act.put, List.setIfInBounds_toArray, List.set_cons_zero, List.set_cons_succ, i64_w, i32_w]
                  rfl
                refine take_ (i := 9) (N := some 46) (v := ?_) (a' := ?_) #[true, true, true, true, true, true, true, true, true, true, false, true, true, true, false, false, true, true, true, false, false, false, false, false, false, false, false] rfl rfl (take_ofW HT_.out HW_.out (by kernel_rfl)) (fun _ _ _ h => h) (Or.inl ⟨by rfl, ?_⟩) hHeld ?_ ?_
                rotate_left
                · rintro w' ⟨s0, s1, s2⟩
                  go_simp
                  with_reducible rfl
                rotate_left
                · simp only [Act.put, List.setIfInBounds_toArray, List.set_cons_zero, List.set_cons_succ, i64_w, i32_w]
                  rfl
                refine pure_ (i := 10) (N := some 47) (v := ?_) (a' := ?_) #[true, true, true, true, true, true, true, true, true, true, true, true, true, true, false, false, true, true, true, false, false, false, false, false, false, false, false] rfl rfl (any_of HT_.out (by kernel_rfl)) (fun _ _ _ h => h) (Or.inl ⟨by rfl, ?_⟩) ?_ ?_
                rotate_left
                · intro w'
                  go_simp
                  with_reducible rfl
                rotate_left
                · simp only [Act.put, List.setIfInBounds_toArray, List.set_cons_zero, List.set_cons_succ, i64_w, i32_w]
                  rfl
                refine take_ (i := 14) (N := some 51) (v := ?_) (a' := ?_) #[true, true, true, true, true, true, true, true, true, true, true, true, true, true, true, false, true, true, true, false, false, false, false, false, false, false, false] rfl rfl (take_ofW HT_.out HW_.out (by kernel_rfl)) (fun _ _ _ h => h) (Or.inl ⟨by rfl, ?_⟩) hHeld ?_ ?_
                rotate_left
                · rintro w' ⟨s0, s1, s2⟩
                  go_simp
                  with_reducible rfl
                rotate_left
                · simp only [Act.put, List.setIfInBounds_toArray, List.set_cons_zero, List.set_cons_succ, i64_w, i32_w]
                  rfl
                refine pure_ (i := 15) (N := some 52) (v := ?_) (a' := ?_) #[true, true, true, true, true, true, true, true, true, true, true, true, true, true, true, true, true, true, true, false, false, false, false, false, false, false, false] rfl rfl (any_of HT_.out (by kernel_rfl)) (fun _ _ _ h => h) (Or.inl ⟨by rfl, ?_⟩) ?_ ?_
                rotate_left
                · intro w'
                  go_simp
                  with_reducible rfl
                rotate_left
                · simp only [Act.put, List.setIfInBounds_toArray, List.set_cons_zero, List.set_cons_succ, i64_w, i32_w]
                  rfl
                refine take_ (i := 19) (N := some 56) (v := ?_) (a' := ?_) #[true, true, true, true, true, true, true, true, true, true, true, true, true, true, true, true, true, true, true, true, false, false, false, false, false, false, false] rfl rfl (take_ofW HT_.out HW_.out (by kernel_rfl)) (fun _ _ _ h => h) (Or.inl ⟨by rfl, ?_⟩) hHeld ?_ ?_
                rotate_left
                · rintro w' ⟨s0, s1, s2⟩
                  go_simp
                  with_reducible rfl
                rotate_left
                · simp only [Act.put, List.setIfInBounds_toArray, List.set_cons_zero, List.set_cons_succ, i64_w, i32_w]
                  rfl
                refine pure_ (i := 20) (N := some 57) (v := ?_) (a' := ?_) #[true, true, true, true, true, true, true, true, true, true, true, true, true, true, true, true, true, true, true, true, true, false, false, false, false, false, false] rfl rfl (any_of HT_.out (by kernel_rfl)) (fun _ _ _ h => h) (Or.inl ⟨by rfl, ?_⟩) ?_ ?_
                rotate_left
                · intro w'
                  go_simp
                  with_reducible rfl
                rotate_left
                · simp only [Act.put, List.setIfInBounds_toArray, List.set_cons_zero, List.set_cons_succ, i64_w, i32_w]
                  rfl
                refine pure_ (i := 21) (N := some 58) (v := ?_) (a' := ?_) #[true, true, true, true, true, true, true, true, true, true, true, true, true, true, true, true, true, true, true, true, true, true, false, false, false, false, false] rfl rfl (any_of HT_.out (by kernel_rfl)) (fun _ _ _ h => h) (Or.inl ⟨by rfl, ?_⟩) ?_ ?_
                rotate_left
                · intro w'
                  go_simp
                  with_reducible rfl
                rotate_left
                · simp only [Act.put, List.setIfInBounds_toArray, List.set_cons_zero, List.set_cons_succ, i64_w, i32_w]
                  rfl
                refine last_ (i := 22) (N := none) #[true, true, true, true, true, true, true, true, true, true, true, true, true, true, true, true, true, true, true, true, true, true, true, false, false, false, false] rfl rfl (one_of HT_.out (by kernel_rfl)) (by decide) (fun K hK => ?_)
                refine skip_ (w1 := ?_) (by rfl) rfl ?_ ?_
                rotate_left
                · go_simp
                  rfl
                refine hK.out _ _ ?_
                clear hK K
                refine pure_ (i := 23) (N := some 59) (v := ?_) (a' := ?_) #[true, true, true, true, true, true, true, true, true, true, true, true, true, true, true, true, true, true, true, true, true, true, true, true, false, false, false] rfl rfl (any_of HT_.out (by kernel_rfl)) (fun _ _ _ h => h) (Or.inl ⟨by rfl, ?_⟩) ?_ ?_
                rotate_left
                · intro w'
                  go_simp
                  with_reducible rfl
                rotate_left
                · simp only [Act.put, List.setIfInBounds_toArray, List.set_cons_zero, List.set_cons_succ, i64_w, i32_w]
                  rfl
                refine last_ (i := 24) (N := none) #[true, true, true, true, true, true, true, true, true, true, true, true, true, true, true, true, true, true, true, true, true, true, true, true, true, false, false] rfl rfl (one_of HT_.out (by kernel_rfl)) (by decide) (fun K hK => ?_)
                refine skip_ (w1 := ?_) (by rfl) rfl ?_ ?_
                rotate_left
                · go_simp
                  rfl
                refine hK.out _ _ ?_
                clear hK K
                refine pure_ (i := 25) (N := some 60) (v := ?_) (a' := ?_) #[true, true, true, true, true, true, true, true, true, true, true, true, true, true, true, true, true, true, true, true, true, true, true, true, true, true, false] rfl rfl (any_of HT_.out (by kernel_rfl)) (fun _ _ _ h => h) (Or.inl ⟨by rfl, ?_⟩) ?_ ?_
                rotate_left
                · intro w'
                  go_simp
                  with_reducible rfl
                rotate_left
                · simp only [Act.put, List.setIfInBounds_toArray, List.set_cons_zero, List.set_cons_succ, i64_w, i32_w]
                  rfl
                refine last_ (i := 26) (N := none) #[true, true, true, true, true, true, true, true, true, true, true, true, true, true, true, true, true, true, true, true, true, true, true, true, true, true, true] rfl rfl (one_of HT_.out (by kernel_rfl)) (by decide) (fun K hK => ?_)
                refine skip_ (w1 := ?_) (by rfl) rfl ?_ ?_
                rotate_left
                · go_simp
                  rfl
                refine hK.out _ _ ?_
                clear hK K
                refine done_ (done_of HT_.out (by kernel_rfl)) ?_
                try go_wp2
                (try simp only [← hl4_1, ← hl5_1])
                go_roundg k1
                case measure => have := HK1.out; omega
                case rel => exact ⟨(y283), (y284), (y285), (wrap64 (x34_1 + 1)), (by first | rfl | (simp; done) | (simp [*]; done)), H', ⟨by have := HK1.out; omega⟩, ⟨by (try simp only [hl4_1]); (try simp only [hl5_1]); (with_reducible repeat (first | apply Kd.R_alloc | apply Kd.R_drewN | apply Kd.R_drew)); exact Kd.R_mono (Kd.R_far (p := ⟨go17, (x34_1 : Int).toNat, none⟩) (Kd.R_far (p := ⟨go16, (x34_1 : Int).toNat, none⟩) (Kd.R_mono (Kd.R_mono HQ20.out (fun k_ hk => (⟨hk, fun e_ => hk.1 (by rw [e_]; rfl)⟩ : _ ∧ k_ ≠ go16))) (fun k_ hk => (⟨hk, fun e_ => hk.1.2 (by rw [e_]; rfl)⟩ : _ ∧ k_ ≠ go17))) (fun _ hk => hk.1.2) (.int .i64 (wrap64 (Int.tdiv (rd x5_1 x34_1) 5)))) (fun _ hk => hk.2) (.int .i64 (wrap64 (Int.tdiv (rd x6_1 x34_1) 5)))) (fun _ hk => ⟨hk.1.1.1, hk.1.1.2⟩)⟩, ⟨by (try simp only [hl4_1]); (try simp only [hl5_1]); (with_reducible repeat (first | apply Kd.R_alloc | apply Kd.R_drewN | apply Kd.R_drew)); exact Kd.R_mono (Kd.R_far (p := ⟨go17, (x34_1 : Int).toNat, none⟩) (Kd.R_mono HQ21.out (fun k_ hk => (⟨hk, fun e_ => hk.1.2 (by rw [e_]; rfl)⟩ : _ ∧ k_ ≠ go17))) (fun _ hk => hk.2) (.int .i64 (wrap64 (Int.tdiv (rd x6_1 x34_1) 5)))) (fun _ hk => ⟨hk.1.1.1, hk.1.1.2⟩)⟩, ⟨by (try simp only [hl4_1]); (try simp only [hl5_1]); (with_reducible repeat (first | apply Kd.R_alloc | apply Kd.R_drewN | apply Kd.R_drew)); exact Kd.R_mono HQ22.out (fun _ hk => ⟨hk.1.1.1, hk.1.1.2⟩)⟩, ⟨by repeat (first | (with_reducible first | exact HB.out | apply below_alloc | apply pw_below_drewN | apply below_drew1 | refine below_set ?_ GB15.out | refine below_set ?_ GB16.out | refine below_set ?_ GB17.out) | exact HB.out)⟩⟩
              · rw [if_neg c14] at H
                exact absurd H (by simp)
            · rw [if_neg c13] at H
              exact absurd H (by simp)
          · rw [if_neg c12] at H
            exact absurd H (by simp)
        · rw [if_neg c11] at H
          exact absurd H (by simp)
      · rw [if_neg c10] at H
        have c10b0 : decide (x34_1 < (t269.length : Int)) = false := decide_eq_false c10
        (try (have c10b0h := c10b0; simp only [hl4_1, hl5_1] at c10b0h))
        clear c10
        replace H := Option.bind_eq_some_iff.mp H
        obtain ⟨⟨t286, t287, t288⟩, A230, H⟩ := H
        replace H : ((euclid_Shifted.f k1 x5_1 x6_1).bind fun bt290 => ((euclid_Shifted.f k1 x4_1 x6_1).bind fun bt294 => ((euclid_Shifted.f k1 x5_1 x4_1).bind fun bt298 => ((euclid_Distance.f k1 x4_1 x5_1).bind fun bt302 => (if t288 = 0 then (if bt290.2.2 = 0 then (if bt294.2.2 = 0 then (if bt298.2.2 = 0 then (if bt302.2 = 0 then (if (!(bt298.1 == t286) || (!(bt298.2.1 == t287))) = true then (shapesearchlaw12_EuclidRoots.j1 k1 bt302.1 (x4_1.length : Int) true t286 t287 bt290.1 bt290.2.1 bt294.1 bt294.2.1) else (if t287 < 1 then (shapesearchlaw12_EuclidRoots.j1 k1 bt302.1 (x4_1.length : Int) true t286 t287 bt290.1 bt290.2.1 bt294.1 bt294.2.1) else (if bt290.2.1 < 1 then (shapesearchlaw12_EuclidRoots.j1 k1 bt302.1 (x4_1.length : Int) true t286 t287 bt290.1 bt290.2.1 bt294.1 bt294.2.1) else (if bt294.2.1 < 1 then (shapesearchlaw12_EuclidRoots.j1 k1 bt302.1 (x4_1.length : Int) true t286 t287 bt290.1 bt290.2.1 bt294.1 bt294.2.1) else (if t287 = 0 then (none) else (if ((x4_1.length : Int) % t287) = 0 then (if bt290.2.1 = 0 then (none) else (if ((x4_1.length : Int) % bt290.2.1) = 0 then (if bt294.2.1 = 0 then (none) else (shapesearchlaw12_EuclidRoots.j1 k1 bt302.1 (x4_1.length : Int) (((x4_1.length : Int) % bt294.2.1) != 0) t286 t287 bt290.1 bt290.2.1 bt294.1 bt294.2.1)) else (shapesearchlaw12_EuclidRoots.j1 k1 bt302.1 (x4_1.length : Int) true t286 t287 bt290.1 bt290.2.1 bt294.1 bt294.2.1))) else (shapesearchlaw12_EuclidRoots.j1 k1 bt302.1 (x4_1.length : Int) true t286 t287 bt290.1 bt290.2.1 bt294.1 bt294.2.1))))))) else (shapesearchlaw12_EuclidRoots.j1 k1 bt302.1 (x4_1.length : Int) true t286 t287 bt290.1 bt290.2.1 bt294.1 bt294.2.1)) else (shapesearchlaw12_EuclidRoots.j1 k1 bt302.1 (x4_1.length : Int) true t286 t287 bt290.1 bt290.2.1 bt294.1 bt294.2.1)) else (shapesearchlaw12_EuclidRoots.j1 k1 bt302.1 (x4_1.length : Int) true t286 t287 bt290.1 bt290.2.1 bt294.1 bt294.2.1)) else (shapesearchlaw12_EuclidRoots.j1 k1 bt302.1 (x4_1.length : Int) true t286 t287 bt290.1 bt290.2.1 bt294.1 bt294.2.1)) else (shapesearchlaw12_EuclidRoots.j1 k1 bt302.1 (x4_1.length : Int) true t286 t287 bt290.1 bt290.2.1 bt294.1 bt294.2.1)))))) = some r := H
        have A23 := Aside0.mk A230
        clear A230
        replace H := Option.bind_eq_some_iff.mp H
        obtain ⟨⟨t290, t291, t292⟩, A240, H⟩ := H
        replace H : ((euclid_Shifted.f k1 x4_1 x6_1).bind fun bt294 => ((euclid_Shifted.f k1 x5_1 x4_1).bind fun bt298 => ((euclid_Distance.f k1 x4_1 x5_1).bind fun bt302 => (if t288 = 0 then (if t292 = 0 then (if bt294.2.2 = 0 then (if bt298.2.2 = 0 then (if bt302.2 = 0 then (if (!(bt298.1 == t286) || (!(bt298.2.1 == t287))) = true then (shapesearchlaw12_EuclidRoots.j1 k1 bt302.1 (x4_1.length : Int) true t286 t287 t290 t291 bt294.1 bt294.2.1) else (if t287 < 1 then (shapesearchlaw12_EuclidRoots.j1 k1 bt302.1 (x4_1.length : Int) true t286 t287 t290 t291 bt294.1 bt294.2.1) else (if t291 < 1 then (shapesearchlaw12_EuclidRoots.j1 k1 bt302.1 (x4_1.length : Int) true t286 t287 t290 t291 bt294.1 bt294.2.1) else (if bt294.2.1 < 1 then (shapesearchlaw12_EuclidRoots.j1 k1 bt302.1 (x4_1.length : Int) true t286 t287 t290 t291 bt294.1 bt294.2.1) else (if t287 = 0 then (none) else (if ((x4_1.length : Int) % t287) = 0 then (if t291 = 0 then (none) else (if ((x4_1.length : Int) % t291) = 0 then (if bt294.2.1 = 0 then (none) else (shapesearchlaw12_EuclidRoots.j1 k1 bt302.1 (x4_1.length : Int) (((x4_1.length : Int) % bt294.2.1) != 0) t286 t287 t290 t291 bt294.1 bt294.2.1)) else (shapesearchlaw12_EuclidRoots.j1 k1 bt302.1 (x4_1.length : Int) true t286 t287 t290 t291 bt294.1 bt294.2.1))) else (shapesearchlaw12_EuclidRoots.j1 k1 bt302.1 (x4_1.length : Int) true t286 t287 t290 t291 bt294.1 bt294.2.1))))))) else (shapesearchlaw12_EuclidRoots.j1 k1 bt302.1 (x4_1.length : Int) true t286 t287 t290 t291 bt294.1 bt294.2.1)) else (shapesearchlaw12_EuclidRoots.j1 k1 bt302.1 (x4_1.length : Int) true t286 t287 t290 t291 bt294.1 bt294.2.1)) else (shapesearchlaw12_EuclidRoots.j1 k1 bt302.1 (x4_1.length : Int) true t286 t287 t290 t291 bt294.1 bt294.2.1)) else (shapesearchlaw12_EuclidRoots.j1 k1 bt302.1 (x4_1.length : Int) true t286 t287 t290 t291 bt294.1 bt294.2.1)) else (shapesearchlaw12_EuclidRoots.j1 k1 bt302.1 (x4_1.length : Int) true t286 t287 t290 t291 bt294.1 bt294.2.1))))) = some r := H
        have A24 := Aside0.mk A240
        clear A240
        replace H := Option.bind_eq_some_iff.mp H
        obtain ⟨⟨t294, t295, t296⟩, A250, H⟩ := H
        replace H : ((euclid_Shifted.f k1 x5_1 x4_1).bind fun bt298 => ((euclid_Distance.f k1 x4_1 x5_1).bind fun bt302 => (if t288 = 0 then (if t292 = 0 then (if t296 = 0 then (if bt298.2.2 = 0 then (if bt302.2 = 0 then (if (!(bt298.1 == t286) || (!(bt298.2.1 == t287))) = true then (shapesearchlaw12_EuclidRoots.j1 k1 bt302.1 (x4_1.length : Int) true t286 t287 t290 t291 t294 t295) else (if t287 < 1 then (shapesearchlaw12_EuclidRoots.j1 k1 bt302.1 (x4_1.length : Int) true t286 t287 t290 t291 t294 t295) else (if t291 < 1 then (shapesearchlaw12_EuclidRoots.j1 k1 bt302.1 (x4_1.length : Int) true t286 t287 t290 t291 t294 t295) else (if t295 < 1 then (shapesearchlaw12_EuclidRoots.j1 k1 bt302.1 (x4_1.length : Int) true t286 t287 t290 t291 t294 t295) else (if t287 = 0 then (none) else (if ((x4_1.length : Int) % t287) = 0 then (if t291 = 0 then (none) else (if ((x4_1.length : Int) % t291) = 0 then (if t295 = 0 then (none) else (shapesearchlaw12_EuclidRoots.j1 k1 bt302.1 (x4_1.length : Int) (((x4_1.length : Int) % t295) != 0) t286 t287 t290 t291 t294 t295)) else (shapesearchlaw12_EuclidRoots.j1 k1 bt302.1 (x4_1.length : Int) true t286 t287 t290 t291 t294 t295))) else (shapesearchlaw12_EuclidRoots.j1 k1 bt302.1 (x4_1.length : Int) true t286 t287 t290 t291 t294 t295))))))) else (shapesearchlaw12_EuclidRoots.j1 k1 bt302.1 (x4_1.length : Int) true t286 t287 t290 t291 t294 t295)) else (shapesearchlaw12_EuclidRoots.j1 k1 bt302.1 (x4_1.length : Int) true t286 t287 t290 t291 t294 t295)) else (shapesearchlaw12_EuclidRoots.j1 k1 bt302.1 (x4_1.length : Int) true t286 t287 t290 t291 t294 t295)) else (shapesearchlaw12_EuclidRoots.j1 k1 bt302.1 (x4_1.length : Int) true t286 t287 t290 t291 t294 t295)) else (shapesearchlaw12_EuclidRoots.j1 k1 bt302.1 (x4_1.length : Int) true t286 t287 t290 t291 t294 t295)))) = some r := H
        have A25 := Aside0.mk A250
        clear A250
        replace H := Option.bind_eq_some_iff.mp H
        obtain ⟨⟨t298, t299, t300⟩, A260, H⟩ := H
        replace H : ((euclid_Distance.f k1 x4_1 x5_1).bind fun bt302 => (if t288 = 0 then (if t292 = 0 then (if t296 = 0 then (if t300 = 0 then (if bt302.2 = 0 then (if (!(t298 == t286) || (!(t299 == t287))) = true then (shapesearchlaw12_EuclidRoots.j1 k1 bt302.1 (x4_1.length : Int) true t286 t287 t290 t291 t294 t295) else (if t287 < 1 then (shapesearchlaw12_EuclidRoots.j1 k1 bt302.1 (x4_1.length : Int) true t286 t287 t290 t291 t294 t295) else (if t291 < 1 then (shapesearchlaw12_EuclidRoots.j1 k1 bt302.1 (x4_1.length : Int) true t286 t287 t290 t291 t294 t295) else (if t295 < 1 then (shapesearchlaw12_EuclidRoots.j1 k1 bt302.1 (x4_1.length : Int) true t286 t287 t290 t291 t294 t295) else (if t287 = 0 then (none) else (if ((x4_1.length : Int) % t287) = 0 then (if t291 = 0 then (none) else (if ((x4_1.length : Int) % t291) = 0 then (if t295 = 0 then (none) else (shapesearchlaw12_EuclidRoots.j1 k1 bt302.1 (x4_1.length : Int) (((x4_1.length : Int) % t295) != 0) t286 t287 t290 t291 t294 t295)) else (shapesearchlaw12_EuclidRoots.j1 k1 bt302.1 (x4_1.length : Int) true t286 t287 t290 t291 t294 t295))) else (shapesearchlaw12_EuclidRoots.j1 k1 bt302.1 (x4_1.length : Int) true t286 t287 t290 t291 t294 t295))))))) else (shapesearchlaw12_EuclidRoots.j1 k1 bt302.1 (x4_1.length : Int) true t286 t287 t290 t291 t294 t295)) else (shapesearchlaw12_EuclidRoots.j1 k1 bt302.1 (x4_1.length : Int) true t286 t287 t290 t291 t294 t295)) else (shapesearchlaw12_EuclidRoots.j1 k1 bt302.1 (x4_1.length : Int) true t286 t287 t290 t291 t294 t295)) else (shapesearchlaw12_EuclidRoots.j1 k1 bt302.1 (x4_1.length : Int) true t286 t287 t290 t291 t294 t295)) else (shapesearchlaw12_EuclidRoots.j1 k1 bt302.1 (x4_1.length : Int) true t286 t287 t290 t291 t294 t295))) = some r := H
        have A26 := Aside0.mk A260
        clear A260
        replace H := Option.bind_eq_some_iff.mp H
        obtain ⟨⟨t302, t303⟩, A270, H⟩ := H
        replace H : (if t288 = 0 then (if t292 = 0 then (if t296 = 0 then (if t300 = 0 then (if t303 = 0 then (if (!(t298 == t286) || (!(t299 == t287))) = true then (shapesearchlaw12_EuclidRoots.j1 k1 t302 (x4_1.length : Int) true t286 t287 t290 t291 t294 t295) else (if t287 < 1 then (shapesearchlaw12_EuclidRoots.j1 k1 t302 (x4_1.length : Int) true t286 t287 t290 t291 t294 t295) else (if t291 < 1 then (shapesearchlaw12_EuclidRoots.j1 k1 t302 (x4_1.length : Int) true t286 t287 t290 t291 t294 t295) else (if t295 < 1 then (shapesearchlaw12_EuclidRoots.j1 k1 t302 (x4_1.length : Int) true t286 t287 t290 t291 t294 t295) else (if t287 = 0 then (none) else (if ((x4_1.length : Int) % t287) = 0 then (if t291 = 0 then (none) else (if ((x4_1.length : Int) % t291) = 0 then (if t295 = 0 then (none) else (shapesearchlaw12_EuclidRoots.j1 k1 t302 (x4_1.length : Int) (((x4_1.length : Int) % t295) != 0) t286 t287 t290 t291 t294 t295)) else (shapesearchlaw12_EuclidRoots.j1 k1 t302 (x4_1.length : Int) true t286 t287 t290 t291 t294 t295))) else (shapesearchlaw12_EuclidRoots.j1 k1 t302 (x4_1.length : Int) true t286 t287 t290 t291 t294 t295))))))) else (shapesearchlaw12_EuclidRoots.j1 k1 t302 (x4_1.length : Int) true t286 t287 t290 t291 t294 t295)) else (shapesearchlaw12_EuclidRoots.j1 k1 t302 (x4_1.length : Int) true t286 t287 t290 t291 t294 t295)) else (shapesearchlaw12_EuclidRoots.j1 k1 t302 (x4_1.length : Int) true t286 t287 t290 t291 t294 t295)) else (shapesearchlaw12_EuclidRoots.j1 k1 t302 (x4_1.length : Int) true t286 t287 t290 t291 t294 t295)) else (shapesearchlaw12_EuclidRoots.j1 k1 t302 (x4_1.length : Int) true t286 t287 t290 t291 t294 t295)) = some r := H
        have A27 := Aside0.mk A270
        clear A270
        have HC28 := Aside0.mk H
        clear H
        go_upto_region 15 with (first | ((with_reducible refine gate_callee (f := 16) rfl ?_); refine goesL_ (some 65) rfl rfl Try.func16 (by kernel_rfl) rfl #[.slice Ao9 x4_1.length co9, .slice Ao7 x5_1.length co7] rfl (by (try simp only [List.map_toArray, List.map_cons, List.map_nil]); first | done | rfl | (simp only [List.length_drop, List.length_take]; rfl)) ?_; (with_reducible refine (euclid_Shifted.calls k1 _ _ x4_1 _ _ x5_1 t286 t287 t288 _ ?side1 ?side2 ?side3 ?side4 A23.out).mono ?_); (case side1 => repeat (first | exact (Kd.R_reads' HO_4.out).2.2 | (with_reducible refine Kd.C_alloc ?_ _) | (with_reducible refine Kd.C_drewN ?_ _) | (with_reducible refine Kd.C_drew ?_))); (case side2 => exact (Kd.R_reads' HO_4.out).2.1); (case side3 => repeat (first | exact (Kd.R_reads' HO_5.out).2.2 | (with_reducible refine Kd.C_alloc ?_ _) | (with_reducible refine Kd.C_drewN ?_ _) | (with_reducible refine Kd.C_drew ?_))); (case side4 => exact (Kd.R_reads' HO_5.out).2.1); rintro e w29 ⟨rfl, hb⟩; refine ⟨_, rfl, ?_⟩; have n0_ := Aside0.mk (Kd.R_below (by (with_reducible repeat (first | apply Kd.R_alloc | apply Kd.R_drewN | apply Kd.R_drew)); exact HO_4.out) hb); have n1_ := Aside0.mk (Kd.R_below (by (with_reducible repeat (first | apply Kd.R_alloc | apply Kd.R_drewN | apply Kd.R_drew)); exact HO_5.out) hb); have n2_ := Aside0.mk (Kd.R_below (by (with_reducible repeat (first | apply Kd.R_alloc | apply Kd.R_drewN | apply Kd.R_drew)); exact HO_6.out) hb); have n3_ := Aside0.mk (below_step (by repeat (first | (with_reducible first | exact HB.out | apply below_alloc | apply pw_below_drewN | apply below_drew1) | exact HB.out)) hb); clear HO_4; clear HO_5; clear HO_6; clear HB; have HO_4 := n0_; have HO_5 := n1_; have HO_6 := n2_; have HB := n3_; clear n0_ n1_ n2_ n3_; (try clear hb); (try clear hb2); (try clear hk); (try clear hi)) | ((with_reducible refine gate_dst (N := 8) rfl ?_); refine box_event ?hg (N := 8) ?hd (cs := #[.int .i64 0, .int .i64 0]) (t := 37) ?hr ?_; (case hd => rfl); (case hg => rfl); (case hr => first | (go_simp; done) | (go_simp; rfl)); intro gb289 hg w30 hbox hb; have n0_ := Aside0.mk (Kd.R_below (by (with_reducible repeat (first | apply Kd.R_alloc | apply Kd.R_drewN | apply Kd.R_drew)); exact HO_4.out) hb); have n1_ := Aside0.mk (Kd.R_below (by (with_reducible repeat (first | apply Kd.R_alloc | apply Kd.R_drewN | apply Kd.R_drew)); exact HO_5.out) hb); have n2_ := Aside0.mk (Kd.R_below (by (with_reducible repeat (first | apply Kd.R_alloc | apply Kd.R_drewN | apply Kd.R_drew)); exact HO_6.out) hb); have n3_ := Aside0.mk (below_step (by repeat (first | (with_reducible first | exact HB.out | apply below_alloc | apply pw_below_drewN | apply below_drew1) | exact HB.out)) hb); have n4_ := Aside0.mk (hbox); have n5_ := Aside0.mk ((by rw [hg]; exact (below_size (by repeat (first | (with_reducible first | exact HB.out | apply below_alloc | apply pw_below_drewN | apply below_drew1) | exact HB.out))) : w.heap.size ≤ gb289)); have n6_ := Aside0.mk ((by rw [hg]; exact (below_size (by repeat (first | (with_reducible first | exact HB.out | apply below_alloc | apply pw_below_drewN | apply below_drew1) | exact HB.out))) : w.heap.size ≤ gb289)); clear HO_4; clear HO_5; clear HO_6; clear HB; have HO_4 := n0_; have HO_5 := n1_; have HO_6 := n2_; have HB := n3_; have BK289 := n4_; have GW289 := n5_; have GE289 := n6_; clear n0_ n1_ n2_ n3_ n4_ n5_ n6_; clear hb hbox hg; have hcz31_0 : w30.cell? ⟨gb289, 0, none⟩ = some (.int .i64 0) := (blk_cell BK289.out 0).trans rfl; have hcz31_1 : w30.cell? ⟨gb289, 1, none⟩ = some (.int .i64 0) := (blk_cell BK289.out 1).trans rfl; have hfz31_0 := blk_frozen BK289.out 0; have hfz31_1 := blk_frozen BK289.out 1; obtain ⟨Ao32, co32, eo32⟩ := Kd.R_slice HO_6.out; subst eo32) | ((with_reducible refine gate_callee (f := 16) rfl ?_); refine goesL_ (some 71) rfl rfl Try.func16 (by kernel_rfl) rfl #[.slice Ao7 x5_1.length co7, .slice Ao32 x6_1.length co32] rfl (by (try simp only [List.map_toArray, List.map_cons, List.map_nil]); first | done | rfl | (simp only [List.length_drop, List.length_take]; rfl)) ?_; (with_reducible refine (euclid_Shifted.calls k1 _ _ x5_1 _ _ x6_1 t290 t291 t292 _ ?side1 ?side2 ?side3 ?side4 A24.out).mono ?_); (case side1 => refine (Kd.R_reads' (e := 3) (base := w.heap.size) (ok := fun k_ => (some k_ ≠ (.slice Ao9 x4_1.length co9 : Value).ownBlock ∧ some k_ ≠ (.slice Ao32 x6_1.length co32 : Value).ownBlock)) (n := x5_1.length) (c := co7) ?_).2.2; exact (by (with_reducible repeat (first | apply Kd.R_alloc | apply Kd.R_drewN | apply Kd.R_drew)); exact (Kd.R_mono (Kd.R_far (p := ⟨gb289, 1, none⟩) (Kd.R_far (p := ⟨gb289, 0, none⟩) (Kd.R_types HO_5.out BK289.out (by decide)) (fun _ hk => hk.2) (.int .i64 t286)) (fun _ hk => hk.2) (.int .i64 t287)) (fun _ h_ => h_.1)))); (case side2 => exact (Kd.R_reads' HO_5.out).2.1); (case side3 => refine (Kd.R_reads' (e := 3) (base := w.heap.size) (ok := fun k_ => (some k_ ≠ (.slice Ao9 x4_1.length co9 : Value).ownBlock ∧ some k_ ≠ (.slice Ao7 x5_1.length co7 : Value).ownBlock)) (n := x6_1.length) (c := co32) ?_).2.2; exact (by (with_reducible repeat (first | apply Kd.R_alloc | apply Kd.R_drewN | apply Kd.R_drew)); exact (Kd.R_mono (Kd.R_far (p := ⟨gb289, 1, none⟩) (Kd.R_far (p := ⟨gb289, 0, none⟩) (Kd.R_types HO_6.out BK289.out (by decide)) (fun _ hk => hk.2) (.int .i64 t286)) (fun _ hk => hk.2) (.int .i64 t287)) (fun _ h_ => h_.1)))); (case side4 => exact (Kd.R_reads' HO_6.out).2.1); rintro e w33 ⟨rfl, hb⟩; refine ⟨_, rfl, ?_⟩; have n0_ := Aside0.mk (Kd.R_below (by (with_reducible repeat (first | apply Kd.R_alloc | apply Kd.R_drewN | apply Kd.R_drew)); exact (Kd.R_mono (Kd.R_far (p := ⟨gb289, 1, none⟩) (Kd.R_far (p := ⟨gb289, 0, none⟩) (Kd.R_types HO_4.out BK289.out (by decide)) (fun _ hk => hk.2) (.int .i64 t286)) (fun _ hk => hk.2) (.int .i64 t287)) (fun _ h_ => h_.1))) hb); have n1_ := Aside0.mk (Kd.R_below (by (with_reducible repeat (first | apply Kd.R_alloc | apply Kd.R_drewN | apply Kd.R_drew)); exact (Kd.R_mono (Kd.R_far (p := ⟨gb289, 1, none⟩) (Kd.R_far (p := ⟨gb289, 0, none⟩) (Kd.R_types HO_5.out BK289.out (by decide)) (fun _ hk => hk.2) (.int .i64 t286)) (fun _ hk => hk.2) (.int .i64 t287)) (fun _ h_ => h_.1))) hb); have n2_ := Aside0.mk (Kd.R_below (by (with_reducible repeat (first | apply Kd.R_alloc | apply Kd.R_drewN | apply Kd.R_drew)); exact (Kd.R_mono (Kd.R_far (p := ⟨gb289, 1, none⟩) (Kd.R_far (p := ⟨gb289, 0, none⟩) (Kd.R_types HO_6.out BK289.out (by decide)) (fun _ hk => hk.2) (.int .i64 t286)) (fun _ hk => hk.2) (.int .i64 t287)) (fun _ h_ => h_.1))) hb); have n3_ := Aside0.mk (blk_below (g := gb289) (o := .cells #[.int .i64 t286, .int .i64 t287] 37 (0, 0)) (by (with_reducible repeat (first | refine blk_drewN ?_ _ | refine blk_drew ?_ | refine blk_alloc ?_ _)); refine blk_put (cs := #[.int .i64 t286, .int .i64 0]) ?_ 1 _ rfl; (with_reducible repeat (first | refine blk_drewN ?_ _ | refine blk_drew ?_ | refine blk_alloc ?_ _)); refine blk_put (cs := #[.int .i64 0, .int .i64 0]) ?_ 0 _ rfl; (with_reducible repeat (first | refine blk_drewN ?_ _ | refine blk_drew ?_ | refine blk_alloc ?_ _)); exact BK289.out) hb); have n4_ := Aside0.mk (below_step (by repeat (first | (with_reducible first | exact HB.out | apply below_alloc | apply pw_below_drewN | apply below_drew1 | refine below_set ?_ GE289.out) | exact HB.out)) hb); clear HO_4; clear HO_5; clear HO_6; clear BK289; clear HB; have HO_4 := n0_; have HO_5 := n1_; have HO_6 := n2_; have BK289 := n3_; have HB := n4_; clear n0_ n1_ n2_ n3_ n4_; (try clear hb); (try clear hb2); (try clear hk); (try clear hi)) | ((with_reducible refine gate_dst (N := 10) rfl ?_); refine box_event ?hg (N := 10) ?hd (cs := #[.int .i64 0, .int .i64 0]) (t := 37) ?hr ?_; (case hd => rfl); (case hg => rfl); (case hr => first | (go_simp; done) | (go_simp; rfl)); intro gb293 hg w34 hbox hb; have n0_ := Aside0.mk (Kd.R_below (by (with_reducible repeat (first | apply Kd.R_alloc | apply Kd.R_drewN | apply Kd.R_drew)); exact HO_4.out) hb); have n1_ := Aside0.mk (Kd.R_below (by (with_reducible repeat (first | apply Kd.R_alloc | apply Kd.R_drewN | apply Kd.R_drew)); exact HO_5.out) hb); have n2_ := Aside0.mk (Kd.R_below (by (with_reducible repeat (first | apply Kd.R_alloc | apply Kd.R_drewN | apply Kd.R_drew)); exact HO_6.out) hb); have n3_ := Aside0.mk (blk_below (g := gb289) (o := .cells #[.int .i64 t286, .int .i64 t287] 37 (0, 0)) (by (with_reducible repeat (first | refine blk_drewN ?_ _ | refine blk_drew ?_ | refine blk_alloc ?_ _)); exact BK289.out) hb); have n4_ := Aside0.mk (below_step (by repeat (first | (with_reducible first | exact HB.out | apply below_alloc | apply pw_below_drewN | apply below_drew1 | refine below_set ?_ GE289.out) | exact HB.out)) hb); have n5_ := Aside0.mk (hbox); have n6_ := Aside0.mk ((by rw [hg]; exact (below_size (by repeat (first | (with_reducible first | exact HB.out | apply below_alloc | apply pw_below_drewN | apply below_drew1 | refine below_set ?_ GE289.out) | exact HB.out))) : w.heap.size ≤ gb293)); have n7_ := Aside0.mk ((by rw [hg]; exact (below_size (by repeat (first | (with_reducible first | exact HB.out | apply below_alloc | apply pw_below_drewN | apply below_drew1 | refine below_set ?_ GE289.out) | exact HB.out))) : w.heap.size ≤ gb293)); have n8_ := Aside0.mk ((by rw [hg]; exact Nat.ne_of_lt (blk_lt (g := gb289) (o := .cells #[.int .i64 t286, .int .i64 t287] 37 (0, 0)) (by (with_reducible repeat (first | refine blk_drewN ?_ _ | refine blk_drew ?_ | refine blk_alloc ?_ _)); exact BK289.out)) : gb289 ≠ gb293)); have n9_ := Aside0.mk ((by rw [hg]; exact Nat.ne_of_gt (blk_lt (g := gb289) (o := .cells #[.int .i64 t286, .int .i64 t287] 37 (0, 0)) (by (with_reducible repeat (first | refine blk_drewN ?_ _ | refine blk_drew ?_ | refine blk_alloc ?_ _)); exact BK289.out)) : gb293 ≠ gb289)); clear HO_4; clear HO_5; clear HO_6; clear BK289; clear HB; have HO_4 := n0_; have HO_5 := n1_; have HO_6 := n2_; have BK289 := n3_; have HB := n4_; have BK293 := n5_; have GW293 := n6_; have GE293 := n7_; have NB289_293 := n8_; have NB293_289 := n9_; clear n0_ n1_ n2_ n3_ n4_ n5_ n6_ n7_ n8_ n9_; clear hb hbox hg; have hnb35 := NB293_289.out; have hnc35 := NB289_293.out; have hcz36_0 : w34.cell? ⟨gb293, 0, none⟩ = some (.int .i64 0) := (blk_cell BK293.out 0).trans rfl; have hcz36_1 : w34.cell? ⟨gb293, 1, none⟩ = some (.int .i64 0) := (blk_cell BK293.out 1).trans rfl; have hfz36_0 := blk_frozen BK293.out 0; have hfz36_1 := blk_frozen BK293.out 1) | ((with_reducible refine gate_callee (f := 16) rfl ?_); refine goesL_ (some 77) rfl rfl Try.func16 (by kernel_rfl) rfl #[.slice Ao9 x4_1.length co9, .slice Ao32 x6_1.length co32] rfl (by (try simp only [List.map_toArray, List.map_cons, List.map_nil]); first | done | rfl | (simp only [List.length_drop, List.length_take]; rfl)) ?_; (with_reducible refine (euclid_Shifted.calls k1 _ _ x4_1 _ _ x6_1 t294 t295 t296 _ ?side1 ?side2 ?side3 ?side4 A25.out).mono ?_); (case side1 => refine (Kd.R_reads' (e := 3) (base := w.heap.size) (ok := fun k_ => (some k_ ≠ (.slice Ao7 x5_1.length co7 : Value).ownBlock ∧ some k_ ≠ (.slice Ao32 x6_1.length co32 : Value).ownBlock)) (n := x4_1.length) (c := co9) ?_).2.2; exact (by (with_reducible repeat (first | apply Kd.R_alloc | apply Kd.R_drewN | apply Kd.R_drew)); exact (Kd.R_mono (Kd.R_far (p := ⟨gb293, 1, none⟩) (Kd.R_far (p := ⟨gb293, 0, none⟩) (Kd.R_types HO_4.out BK293.out (by decide)) (fun _ hk => hk.2) (.int .i64 t290)) (fun _ hk => hk.2) (.int .i64 t291)) (fun _ h_ => h_.1)))); (case side2 => exact (Kd.R_reads' HO_4.out).2.1); (case side3 => refine (Kd.R_reads' (e := 3) (base := w.heap.size) (ok := fun k_ => (some k_ ≠ (.slice Ao9 x4_1.length co9 : Value).ownBlock ∧ some k_ ≠ (.slice Ao7 x5_1.length co7 : Value).ownBlock)) (n := x6_1.length) (c := co32) ?_).2.2; exact (by (with_reducible repeat (first | apply Kd.R_alloc | apply Kd.R_drewN | apply Kd.R_drew)); exact (Kd.R_mono (Kd.R_far (p := ⟨gb293, 1, none⟩) (Kd.R_far (p := ⟨gb293, 0, none⟩) (Kd.R_types HO_6.out BK293.out (by decide)) (fun _ hk => hk.2) (.int .i64 t290)) (fun _ hk => hk.2) (.int .i64 t291)) (fun _ h_ => h_.1)))); (case side4 => exact (Kd.R_reads' HO_6.out).2.1); rintro e w37 ⟨rfl, hb⟩; refine ⟨_, rfl, ?_⟩; have n0_ := Aside0.mk (Kd.R_below (by (with_reducible repeat (first | apply Kd.R_alloc | apply Kd.R_drewN | apply Kd.R_drew)); exact (Kd.R_mono (Kd.R_far (p := ⟨gb293, 1, none⟩) (Kd.R_far (p := ⟨gb293, 0, none⟩) (Kd.R_types HO_4.out BK293.out (by decide)) (fun _ hk => hk.2) (.int .i64 t290)) (fun _ hk => hk.2) (.int .i64 t291)) (fun _ h_ => h_.1))) hb); have n1_ := Aside0.mk (Kd.R_below (by (with_reducible repeat (first | apply Kd.R_alloc | apply Kd.R_drewN | apply Kd.R_drew)); exact (Kd.R_mono (Kd.R_far (p := ⟨gb293, 1, none⟩) (Kd.R_far (p := ⟨gb293, 0, none⟩) (Kd.R_types HO_5.out BK293.out (by decide)) (fun _ hk => hk.2) (.int .i64 t290)) (fun _ hk => hk.2) (.int .i64 t291)) (fun _ h_ => h_.1))) hb); have n2_ := Aside0.mk (Kd.R_below (by (with_reducible repeat (first | apply Kd.R_alloc | apply Kd.R_drewN | apply Kd.R_drew)); exact (Kd.R_mono (Kd.R_far (p := ⟨gb293, 1, none⟩) (Kd.R_far (p := ⟨gb293, 0, none⟩) (Kd.R_types HO_6.out BK293.out (by decide)) (fun _ hk => hk.2) (.int .i64 t290)) (fun _ hk => hk.2) (.int .i64 t291)) (fun _ h_ => h_.1))) hb); have n3_ := Aside0.mk (blk_below (g := gb289) (o := .cells #[.int .i64 t286, .int .i64 t287] 37 (0, 0)) (by (with_reducible repeat (first | refine blk_drewN ?_ _ | refine blk_drew ?_ | refine blk_alloc ?_ _)); refine blk_far ?_ NB289_293.out _; (with_reducible repeat (first | refine blk_drewN ?_ _ | refine blk_drew ?_ | refine blk_alloc ?_ _)); refine blk_far ?_ NB289_293.out _; (with_reducible repeat (first | refine blk_drewN ?_ _ | refine blk_drew ?_ | refine blk_alloc ?_ _)); exact BK289.out) hb); have n4_ := Aside0.mk (blk_below (g := gb293) (o := .cells #[.int .i64 t290, .int .i64 t291] 37 (0, 0)) (by (with_reducible repeat (first | refine blk_drewN ?_ _ | refine blk_drew ?_ | refine blk_alloc ?_ _)); refine blk_put (cs := #[.int .i64 t290, .int .i64 0]) ?_ 1 _ rfl; (with_reducible repeat (first | refine blk_drewN ?_ _ | refine blk_drew ?_ | refine blk_alloc ?_ _)); refine blk_put (cs := #[.int .i64 0, .int .i64 0]) ?_ 0 _ rfl; (with_reducible repeat (first | refine blk_drewN ?_ _ | refine blk_drew ?_ | refine blk_alloc ?_ _)); exact BK293.out) hb); have n5_ := Aside0.mk (below_step (by repeat (first | (with_reducible first | exact HB.out | apply below_alloc | apply pw_below_drewN | apply below_drew1 | refine below_set ?_ GE289.out | refine below_set ?_ GE293.out) | exact HB.out)) hb); clear HO_4; clear HO_5; clear HO_6; clear BK289; clear BK293; clear HB; have HO_4 := n0_; have HO_5 := n1_; have HO_6 := n2_; have BK289 := n3_; have BK293 := n4_; have HB := n5_; clear n0_ n1_ n2_ n3_ n4_ n5_; (try clear hb); (try clear hb2); (try clear hk); (try clear hi)) | ((with_reducible refine gate_dst (N := 12) rfl ?_); refine box_event ?hg (N := 12) ?hd (cs := #[.int .i64 0, .int .i64 0]) (t := 37) ?hr ?_; (case hd => rfl); (case hg => rfl); (case hr => first | (go_simp; done) | (go_simp; rfl)); intro gb297 hg w38 hbox hb; have n0_ := Aside0.mk (Kd.R_below (by (with_reducible repeat (first | apply Kd.R_alloc | apply Kd.R_drewN | apply Kd.R_drew)); exact HO_4.out) hb); have n1_ := Aside0.mk (Kd.R_below (by (with_reducible repeat (first | apply Kd.R_alloc | apply Kd.R_drewN | apply Kd.R_drew)); exact HO_5.out) hb); have n2_ := Aside0.mk (Kd.R_below (by (with_reducible repeat (first | apply Kd.R_alloc | apply Kd.R_drewN | apply Kd.R_drew)); exact HO_6.out) hb); have n3_ := Aside0.mk (blk_below (g := gb289) (o := .cells #[.int .i64 t286, .int .i64 t287] 37 (0, 0)) (by (with_reducible repeat (first | refine blk_drewN ?_ _ | refine blk_drew ?_ | refine blk_alloc ?_ _)); exact BK289.out) hb); have n4_ := Aside0.mk (blk_below (g := gb293) (o := .cells #[.int .i64 t290, .int .i64 t291] 37 (0, 0)) (by (with_reducible repeat (first | refine blk_drewN ?_ _ | refine blk_drew ?_ | refine blk_alloc ?_ _)); exact BK293.out) hb); have n5_ := Aside0.mk (below_step (by repeat (first | (with_reducible first | exact HB.out | apply below_alloc | apply pw_below_drewN | apply below_drew1 | refine below_set ?_ GE289.out | refine below_set ?_ GE293.out) | exact HB.out)) hb); have n6_ := Aside0.mk (hbox); have n7_ := Aside0.mk ((by rw [hg]; exact (below_size (by repeat (first | (with_reducible first | exact HB.out | apply below_alloc | apply pw_below_drewN | apply below_drew1 | refine below_set ?_ GE289.out | refine below_set ?_ GE293.out) | exact HB.out))) : w.heap.size ≤ gb297)); have n8_ := Aside0.mk ((by rw [hg]; exact (below_size (by repeat (first | (with_reducible first | exact HB.out | apply below_alloc | apply pw_below_drewN | apply below_drew1 | refine below_set ?_ GE289.out | refine below_set ?_ GE293.out) | exact HB.out))) : w.heap.size ≤ gb297)); have n9_ := Aside0.mk ((by rw [hg]; exact Nat.ne_of_lt (blk_lt (g := gb289) (o := .cells #[.int .i64 t286, .int .i64 t287] 37 (0, 0)) (by (with_reducible repeat (first | refine blk_drewN ?_ _ | refine blk_drew ?_ | refine blk_alloc ?_ _)); exact BK289.out)) : gb289 ≠ gb297)); have n10_ := Aside0.mk ((by rw [hg]; exact Nat.ne_of_gt (blk_lt (g := gb289) (o := .cells #[.int .i64 t286, .int .i64 t287] 37 (0, 0)) (by (with_reducible repeat (first | refine blk_drewN ?_ _ | refine blk_drew ?_ | refine blk_alloc ?_ _)); exact BK289.out)) : gb297 ≠ gb289)); have n11_ := Aside0.mk ((by rw [hg]; exact Nat.ne_of_lt (blk_lt (g := gb293) (o := .cells #[.int .i64 t290, .int .i64 t291] 37 (0, 0)) (by (with_reducible repeat (first | refine blk_drewN ?_ _ | refine blk_drew ?_ | refine blk_alloc ?_ _)); exact BK293.out)) : gb293 ≠ gb297)); have n12_ := Aside0.mk ((by rw [hg]; exact Nat.ne_of_gt (blk_lt (g := gb293) (o := .cells #[.int .i64 t290, .int .i64 t291] 37 (0, 0)) (by (with_reducible repeat (first | refine blk_drewN ?_ _ | refine blk_drew ?_ | refine blk_alloc ?_ _)); exact BK293.out)) : gb297 ≠ gb293)); clear HO_4; clear HO_5; clear HO_6; clear BK289; clear BK293; clear HB; have HO_4 := n0_; have HO_5 := n1_; have HO_6 := n2_; have BK289 := n3_; have BK293 := n4_; have HB := n5_; have BK297 := n6_; have GW297 := n7_; have GE297 := n8_; have NB289_297 := n9_; have NB297_289 := n10_; have NB293_297 := n11_; have NB297_293 := n12_; clear n0_ n1_ n2_ n3_ n4_ n5_ n6_ n7_ n8_ n9_ n10_ n11_ n12_; clear hb hbox hg; have hnb39 := NB297_289.out; have hnc39 := NB289_297.out; have hnb40 := NB297_293.out; have hnc40 := NB293_297.out; have hcz41_0 : w38.cell? ⟨gb297, 0, none⟩ = some (.int .i64 0) := (blk_cell BK297.out 0).trans rfl; have hcz41_1 : w38.cell? ⟨gb297, 1, none⟩ = some (.int .i64 0) := (blk_cell BK297.out 1).trans rfl; have hfz41_0 := blk_frozen BK297.out 0; have hfz41_1 := blk_frozen BK297.out 1) | ((with_reducible refine gate_callee (f := 16) rfl ?_); refine goesL_ (some 83) rfl rfl Try.func16 (by kernel_rfl) rfl #[.slice Ao7 x5_1.length co7, .slice Ao9 x4_1.length co9] rfl (by (try simp only [List.map_toArray, List.map_cons, List.map_nil]); first | done | rfl | (simp only [List.length_drop, List.length_take]; rfl)) ?_; (with_reducible refine (euclid_Shifted.calls k1 _ _ x5_1 _ _ x4_1 t298 t299 t300 _ ?side1 ?side2 ?side3 ?side4 A26.out).mono ?_); (case side1 => refine (Kd.R_reads' (e := 3) (base := w.heap.size) (ok := fun k_ => (some k_ ≠ (.slice Ao9 x4_1.length co9 : Value).ownBlock ∧ some k_ ≠ (.slice Ao32 x6_1.length co32 : Value).ownBlock)) (n := x5_1.length) (c := co7) ?_).2.2; exact (by (with_reducible repeat (first | apply Kd.R_alloc | apply Kd.R_drewN | apply Kd.R_drew)); exact (Kd.R_mono (Kd.R_far (p := ⟨gb297, 1, none⟩) (Kd.R_far (p := ⟨gb297, 0, none⟩) (Kd.R_types HO_5.out BK297.out (by decide)) (fun _ hk => hk.2) (.int .i64 t294)) (fun _ hk => hk.2) (.int .i64 t295)) (fun _ h_ => h_.1)))); (case side2 => exact (Kd.R_reads' HO_5.out).2.1); (case side3 => refine (Kd.R_reads' (e := 3) (base := w.heap.size) (ok := fun k_ => (some k_ ≠ (.slice Ao7 x5_1.length co7 : Value).ownBlock ∧ some k_ ≠ (.slice Ao32 x6_1.length co32 : Value).ownBlock)) (n := x4_1.length) (c := co9) ?_).2.2; exact (by (with_reducible repeat (first | apply Kd.R_alloc | apply Kd.R_drewN | apply Kd.R_drew)); exact (Kd.R_mono (Kd.R_far (p := ⟨gb297, 1, none⟩) (Kd.R_far (p := ⟨gb297, 0, none⟩) (Kd.R_types HO_4.out BK297.out (by decide)) (fun _ hk => hk.2) (.int .i64 t294)) (fun _ hk => hk.2) (.int .i64 t295)) (fun _ h_ => h_.1)))); (case side4 => exact (Kd.R_reads' HO_4.out).2.1); rintro e w42 ⟨rfl, hb⟩; refine ⟨_, rfl, ?_⟩; have n0_ := Aside0.mk (Kd.R_below (by (with_reducible repeat (first | apply Kd.R_alloc | apply Kd.R_drewN | apply Kd.R_drew)); exact (Kd.R_mono (Kd.R_far (p := ⟨gb297, 1, none⟩) (Kd.R_far (p := ⟨gb297, 0, none⟩) (Kd.R_types HO_4.out BK297.out (by decide)) (fun _ hk => hk.2) (.int .i64 t294)) (fun _ hk => hk.2) (.int .i64 t295)) (fun _ h_ => h_.1))) hb); have n1_ := Aside0.mk (Kd.R_below (by (with_reducible repeat (first | apply Kd.R_alloc | apply Kd.R_drewN | apply Kd.R_drew)); exact (Kd.R_mono (Kd.R_far (p := ⟨gb297, 1, none⟩) (Kd.R_far (p := ⟨gb297, 0, none⟩) (Kd.R_types HO_5.out BK297.out (by decide)) (fun _ hk => hk.2) (.int .i64 t294)) (fun _ hk => hk.2) (.int .i64 t295)) (fun _ h_ => h_.1))) hb); have n2_ := Aside0.mk (Kd.R_below (by (with_reducible repeat (first | apply Kd.R_alloc | apply Kd.R_drewN | apply Kd.R_drew)); exact (Kd.R_mono (Kd.R_far (p := ⟨gb297, 1, none⟩) (Kd.R_far (p := ⟨gb297, 0, none⟩) (Kd.R_types HO_6.out BK297.out (by decide)) (fun _ hk => hk.2) (.int .i64 t294)) (fun _ hk => hk.2) (.int .i64 t295)) (fun _ h_ => h_.1))) hb); have n3_ := Aside0.mk (blk_below (g := gb289) (o := .cells #[.int .i64 t286, .int .i64 t287] 37 (0, 0)) (by (with_reducible repeat (first | refine blk_drewN ?_ _ | refine blk_drew ?_ | refine blk_alloc ?_ _)); refine blk_far ?_ NB289_297.out _; (with_reducible repeat (first | refine blk_drewN ?_ _ | refine blk_drew ?_ | refine blk_alloc ?_ _)); refine blk_far ?_ NB289_297.out _; (with_reducible repeat (first | refine blk_drewN ?_ _ | refine blk_drew ?_ | refine blk_alloc ?_ _)); exact BK289.out) hb); have n4_ := Aside0.mk (blk_below (g := gb293) (o := .cells #[.int .i64 t290, .int .i64 t291] 37 (0, 0)) (by (with_reducible repeat (first | refine blk_drewN ?_ _ | refine blk_drew ?_ | refine blk_alloc ?_ _)); refine blk_far ?_ NB293_297.out _; (with_reducible repeat (first | refine blk_drewN ?_ _ | refine blk_drew ?_ | refine blk_alloc ?_ _)); refine blk_far ?_ NB293_297.out _; (with_reducible repeat (first | refine blk_drewN ?_ _ | refine blk_drew ?_ | refine blk_alloc ?_ _)); exact BK293.out) hb); have n5_ := Aside0.mk (blk_below (g := gb297) (o := .cells #[.int .i64 t294, .int .i64 t295] 37 (0, 0)) (by (with_reducible repeat (first | refine blk_drewN ?_ _ | refine blk_drew ?_ | refine blk_alloc ?_ _)); refine blk_put (cs := #[.int .i64 t294, .int .i64 0]) ?_ 1 _ rfl; (with_reducible repeat (first | refine blk_drewN ?_ _ | refine blk_drew ?_ | refine blk_alloc ?_ _)); refine blk_put (cs := #[.int .i64 0, .int .i64 0]) ?_ 0 _ rfl; (with_reducible repeat (first | refine blk_drewN ?_ _ | refine blk_drew ?_ | refine blk_alloc ?_ _)); exact BK297.out) hb); have n6_ := Aside0.mk (below_step (by repeat (first | (with_reducible first | exact HB.out | apply below_alloc | apply pw_below_drewN | apply below_drew1 | refine below_set ?_ GE289.out | refine below_set ?_ GE293.out | refine below_set ?_ GE297.out) | exact HB.out)) hb); clear HO_4; clear HO_5; clear HO_6; clear BK289; clear BK293; clear BK297; clear HB; have HO_4 := n0_; have HO_5 := n1_; have HO_6 := n2_; have BK289 := n3_; have BK293 := n4_; have BK297 := n5_; have HB := n6_; clear n0_ n1_ n2_ n3_ n4_ n5_ n6_; (try clear hb); (try clear hb2); (try clear hk); (try clear hi)) | ((with_reducible refine gate_dst (N := 14) rfl ?_); refine box_event ?hg (N := 14) ?hd (cs := #[.int .i64 0, .int .i64 0]) (t := 37) ?hr ?_; (case hd => rfl); (case hg => rfl); (case hr => first | (go_simp; done) | (go_simp; rfl)); intro gb301 hg w43 hbox hb; have n0_ := Aside0.mk (Kd.R_below (by (with_reducible repeat (first | apply Kd.R_alloc | apply Kd.R_drewN | apply Kd.R_drew)); exact HO_4.out) hb); have n1_ := Aside0.mk (Kd.R_below (by (with_reducible repeat (first | apply Kd.R_alloc | apply Kd.R_drewN | apply Kd.R_drew)); exact HO_5.out) hb); have n2_ := Aside0.mk (Kd.R_below (by (with_reducible repeat (first | apply Kd.R_alloc | apply Kd.R_drewN | apply Kd.R_drew)); exact HO_6.out) hb); have n3_ := Aside0.mk (blk_below (g := gb289) (o := .cells #[.int .i64 t286, .int .i64 t287] 37 (0, 0)) (by (with_reducible repeat (first | refine blk_drewN ?_ _ | refine blk_drew ?_ | refine blk_alloc ?_ _)); exact BK289.out) hb); have n4_ := Aside0.mk (blk_below (g := gb293) (o := .cells #[.int .i64 t290, .int .i64 t291] 37 (0, 0)) (by (with_reducible repeat (first | refine blk_drewN ?_ _ | refine blk_drew ?_ | refine blk_alloc ?_ _)); exact BK293.out) hb); have n5_ := Aside0.mk (blk_below (g := gb297) (o := .cells #[.int .i64 t294, .int .i64 t295] 37 (0, 0)) (by (with_reducible repeat (first | refine blk_drewN ?_ _ | refine blk_drew ?_ | refine blk_alloc ?_ _)); exact BK297.out) hb); have n6_ := Aside0.mk (below_step (by repeat (first | (with_reducible first | exact HB.out | apply below_alloc | apply pw_below_drewN | apply below_drew1 | refine below_set ?_ GE289.out | refine below_set ?_ GE293.out | refine below_set ?_ GE297.out) | exact HB.out)) hb); have n7_ := Aside0.mk (hbox); have n8_ := Aside0.mk ((by rw [hg]; exact (below_size (by repeat (first | (with_reducible first | exact HB.out | apply below_alloc | apply pw_below_drewN | apply below_drew1 | refine below_set ?_ GE289.out | refine below_set ?_ GE293.out | refine below_set ?_ GE297.out) | exact HB.out))) : w.heap.size ≤ gb301)); have n9_ := Aside0.mk ((by rw [hg]; exact (below_size (by repeat (first | (with_reducible first | exact HB.out | apply below_alloc | apply pw_below_drewN | apply below_drew1 | refine below_set ?_ GE289.out | refine below_set ?_ GE293.out | refine below_set ?_ GE297.out) | exact HB.out))) : w.heap.size ≤ gb301)); have n10_ := Aside0.mk ((by rw [hg]; exact Nat.ne_of_lt (blk_lt (g := gb289) (o := .cells #[.int .i64 t286, .int .i64 t287] 37 (0, 0)) (by (with_reducible repeat (first | refine blk_drewN ?_ _ | refine blk_drew ?_ | refine blk_alloc ?_ _)); exact BK289.out)) : gb289 ≠ gb301)); have n11_ := Aside0.mk ((by rw [hg]; exact Nat.ne_of_gt (blk_lt (g := gb289) (o := .cells #[.int .i64 t286, .int .i64 t287] 37 (0, 0)) (by (with_reducible repeat (first | refine blk_drewN ?_ _ | refine blk_drew ?_ | refine blk_alloc ?_ _)); exact BK289.out)) : gb301 ≠ gb289)); have n12_ := Aside0.mk ((by rw [hg]; exact Nat.ne_of_lt (blk_lt (g := gb293) (o := .cells #[.int .i64 t290, .int .i64 t291] 37 (0, 0)) (by (with_reducible repeat (first | refine blk_drewN ?_ _ | refine blk_drew ?_ | refine blk_alloc ?_ _)); exact BK293.out)) : gb293 ≠ gb301)); have n13_ := Aside0.mk ((by rw [hg]; exact Nat.ne_of_gt (blk_lt (g := gb293) (o := .cells #[.int .i64 t290, .int .i64 t291] 37 (0, 0)) (by (with_reducible repeat (first | refine blk_drewN ?_ _ | refine blk_drew ?_ | refine blk_alloc ?_ _)); exact BK293.out)) : gb301 ≠ gb293)); have n14_ := Aside0.mk ((by rw [hg]; exact Nat.ne_of_lt (blk_lt (g := gb297) (o := .cells #[.int .i64 t294, .int .i64 t295] 37 (0, 0)) (by (with_reducible repeat (first | refine blk_drewN ?_ _ | refine blk_drew ?_ | refine blk_alloc ?_ _)); exact BK297.out)) : gb297 ≠ gb301)); have n15_ := Aside0.mk ((by rw [hg]; exact Nat.ne_of_gt (blk_lt (g := gb297) (o := .cells #[.int .i64 t294, .int .i64 t295] 37 (0, 0)) (by (with_reducible repeat (first | refine blk_drewN ?_ _ | refine blk_drew ?_ | refine blk_alloc ?_ _)); exact BK297.out)) : gb301 ≠ gb297)); clear HO_4; clear HO_5; clear HO_6; clear BK289; clear BK293; clear BK297; clear HB; have HO_4 := n0_; have HO_5 := n1_; have HO_6 := n2_; have BK289 := n3_; have BK293 := n4_; have BK297 := n5_; have HB := n6_; have BK301 := n7_; have GW301 := n8_; have GE301 := n9_; have NB289_301 := n10_; have NB301_289 := n11_; have NB293_301 := n12_; have NB301_293 := n13_; have NB297_301 := n14_; have NB301_297 := n15_; clear n0_ n1_ n2_ n3_ n4_ n5_ n6_ n7_ n8_ n9_ n10_ n11_ n12_ n13_ n14_ n15_; clear hb hbox hg; have hnb44 := NB301_289.out; have hnc44 := NB289_301.out; have hnb45 := NB301_293.out; have hnc45 := NB293_301.out; have hnb46 := NB301_297.out; have hnc46 := NB297_301.out; have hcz47_0 : w43.cell? ⟨gb301, 0, none⟩ = some (.int .i64 0) := (blk_cell BK301.out 0).trans rfl; have hcz47_1 : w43.cell? ⟨gb301, 1, none⟩ = some (.int .i64 0) := (blk_cell BK301.out 1).trans rfl; have hfz47_0 := blk_frozen BK301.out 0; have hfz47_1 := blk_frozen BK301.out 1) | ((with_reducible refine gate_callee (f := 12) rfl ?_); refine goesL_ (some 89) rfl rfl Try.func12 (by kernel_rfl) rfl #[.slice Ao9 x4_1.length co9, .slice Ao7 x5_1.length co7] rfl (by (try simp only [List.map_toArray, List.map_cons, List.map_nil]); first | done | rfl | (simp only [List.length_drop, List.length_take]; rfl)) ?_; (with_reducible refine (euclid_Distance.calls k1 _ _ x4_1 _ _ x5_1 t302 t303 _ ?side1 ?side2 ?side3 ?side4 A27.out).mono ?_); (case side1 => refine (Kd.R_reads' (e := 3) (base := w.heap.size) (ok := fun k_ => (some k_ ≠ (.slice Ao7 x5_1.length co7 : Value).ownBlock ∧ some k_ ≠ (.slice Ao32 x6_1.length co32 : Value).ownBlock)) (n := x4_1.length) (c := co9) ?_).2.2; exact (by (with_reducible repeat (first | apply Kd.R_alloc | apply Kd.R_drewN | apply Kd.R_drew)); exact (Kd.R_mono (Kd.R_far (p := ⟨gb301, 1, none⟩) (Kd.R_far (p := ⟨gb301, 0, none⟩) (Kd.R_types HO_4.out BK301.out (by decide)) (fun _ hk => hk.2) (.int .i64 t298)) (fun _ hk => hk.2) (.int .i64 t299)) (fun _ h_ => h_.1)))); (case side2 => exact (Kd.R_reads' HO_4.out).2.1); (case side3 => refine (Kd.R_reads' (e := 3) (base := w.heap.size) (ok := fun k_ => (some k_ ≠ (.slice Ao9 x4_1.length co9 : Value).ownBlock ∧ some k_ ≠ (.slice Ao32 x6_1.length co32 : Value).ownBlock)) (n := x5_1.length) (c := co7) ?_).2.2; exact (by (with_reducible repeat (first | apply Kd.R_alloc | apply Kd.R_drewN | apply Kd.R_drew)); exact (Kd.R_mono (Kd.R_far (p := ⟨gb301, 1, none⟩) (Kd.R_far (p := ⟨gb301, 0, none⟩) (Kd.R_types HO_5.out BK301.out (by decide)) (fun _ hk => hk.2) (.int .i64 t298)) (fun _ hk => hk.2) (.int .i64 t299)) (fun _ h_ => h_.1)))); (case side4 => exact (Kd.R_reads' HO_5.out).2.1); rintro e w' ⟨rfl, ⟨nd, rfl⟩⟩; refine ⟨_, rfl, ?_⟩))
        (try simp only [Act.put, List.setIfInBounds_toArray, List.set_cons_zero, List.set_cons_succ])
        go_cut [152] (fun v152 wc => ∃ (kq : Nat) (x152_27 : Bool), v152 = .bool x152_27 ∧ Aside0 (shapesearchlaw12_EuclidRoots.j1 kq t302 (x4_1.length : Int) x152_27 t286 t287 t290 t291 t294 t295 = some r) ∧ Aside0 (kq ≤ k1) ∧ Aside0 (wc.heap[gb289]? = some (.cells #[.int .i64 t286, .int .i64 t287] 37 (0, 0))) ∧ Aside0 (wc.heap[gb293]? = some (.cells #[.int .i64 t290, .int .i64 t291] 37 (0, 0))) ∧ Aside0 (wc.heap[gb297]? = some (.cells #[.int .i64 t294, .int .i64 t295] 37 (0, 0))) ∧ Aside0 (wc.heap[gb301]? = some (.cells #[.int .i64 t298, .int .i64 t299] 37 (0, 0))) ∧ Aside0 (Below w.heap.size w wc))
        case first =>
          have H := HC28.out
          clear HC28
          by_cases c48 : t288 = 0
          · rw [if_pos c48] at H
            have c48b0 : (t288 == 0) = true := beq_iff_eq.mpr c48
            have c48b1 : (t288 != 0) = false := bne_eq_false_iff_eq.mpr c48
            clear c48
            (first | rw [c48b0] | (simp only [i64_w, i32_w]; rw [c48b0]) | skip)
            by_cases c49 : t292 = 0
            · rw [if_pos c49] at H
              have c49b0 : (t292 == 0) = true := beq_iff_eq.mpr c49
              have c49b1 : (t292 != 0) = false := bne_eq_false_iff_eq.mpr c49
              clear c49
              by_cases c50 : t296 = 0
              · rw [if_pos c50] at H
                have c50b0 : (t296 == 0) = true := beq_iff_eq.mpr c50
                have c50b1 : (t296 != 0) = false := bne_eq_false_iff_eq.mpr c50
                clear c50
                by_cases c51 : t300 = 0
                · rw [if_pos c51] at H
                  have c51b0 : (t300 == 0) = true := beq_iff_eq.mpr c51
                  have c51b1 : (t300 != 0) = false := bne_eq_false_iff_eq.mpr c51
                  clear c51
                  by_cases c52 : t303 = 0
                  · rw [if_pos c52] at H
                    have c52b0 : (t303 == 0) = true := beq_iff_eq.mpr c52
                    have c52b1 : (t303 != 0) = false := bne_eq_false_iff_eq.mpr c52
                    clear c52
                    by_cases c53 : (!(t298 == t286) || (!(t299 == t287))) = true
                    · rw [if_pos c53] at H
                      have c53b0 : (!(t298 == t286) || (!(t299 == t287))) = true := c53
                      clear c53
                      have H' := Aside0.mk H
                      clear H
                      have hnb54 := NB301_289.out
                      have hnc54 := NB289_301.out
                      have hnb55 := NB301_293.out
                      have hnc55 := NB293_301.out
                      have hnb56 := NB301_297.out
                      have hnc56 := NB297_301.out
                      have hcz57_0 : w43.cell? ⟨gb301, 0, none⟩ = some (.int .i64 0) := (blk_cell BK301.out 0).trans rfl
                      have hcz57_1 : w43.cell? ⟨gb301, 1, none⟩ = some (.int .i64 0) := (blk_cell BK301.out 1).trans rfl
                      have hfz57_0 := blk_frozen BK301.out 0
                      have hfz57_1 := blk_frozen BK301.out 1
                      have hnb58 := NB289_293.out
                      have hnc58 := NB293_289.out
                      have hnb59 := NB289_297.out
                      have hnc59 := NB297_289.out
                      have hcz60_0 : w43.cell? ⟨gb289, 0, none⟩ = some (.int .i64 t286) := (blk_cell BK289.out 0).trans rfl
                      have hcz60_1 : w43.cell? ⟨gb289, 1, none⟩ = some (.int .i64 t287) := (blk_cell BK289.out 1).trans rfl
                      have hfz60_0 := blk_frozen BK289.out 0
                      have hfz60_1 := blk_frozen BK289.out 1
                      go_wp2
                      go_meet
                      case rel => exact ⟨_, (true), (by first | rfl | (simp; done) | (simp [*]; done)), H', ⟨by have := HK1.out; first | omega | exact Nat.le_refl _⟩, ⟨by (try simp only [hl4_1]); (try simp only [hl5_1]); (with_reducible repeat (first | refine blk_drewN ?_ _ | refine blk_drew ?_ | refine blk_alloc ?_ _)); refine blk_far ?_ NB289_301.out _; (with_reducible repeat (first | refine blk_drewN ?_ _ | refine blk_drew ?_ | refine blk_alloc ?_ _)); refine blk_far ?_ NB289_301.out _; (with_reducible repeat (first | refine blk_drewN ?_ _ | refine blk_drew ?_ | refine blk_alloc ?_ _)); exact BK289.out⟩, ⟨by (try simp only [hl4_1]); (try simp only [hl5_1]); (with_reducible repeat (first | refine blk_drewN ?_ _ | refine blk_drew ?_ | refine blk_alloc ?_ _)); refine blk_far ?_ NB293_301.out _; (with_reducible repeat (first | refine blk_drewN ?_ _ | refine blk_drew ?_ | refine blk_alloc ?_ _)); refine blk_far ?_ NB293_301.out _; (with_reducible repeat (first | refine blk_drewN ?_ _ | refine blk_drew ?_ | refine blk_alloc ?_ _)); exact BK293.out⟩, ⟨by (try simp only [hl4_1]); (try simp only [hl5_1]); (with_reducible repeat (first | refine blk_drewN ?_ _ | refine blk_drew ?_ | refine blk_alloc ?_ _)); refine blk_far ?_ NB297_301.out _; (with_reducible repeat (first | refine blk_drewN ?_ _ | refine blk_drew ?_ | refine blk_alloc ?_ _)); refine blk_far ?_ NB297_301.out _; (with_reducible repeat (first | refine blk_drewN ?_ _ | refine blk_drew ?_ | refine blk_alloc ?_ _)); exact BK297.out⟩, ⟨by (try simp only [hl4_1]); (try simp only [hl5_1]); (with_reducible repeat (first | refine blk_drewN ?_ _ | refine blk_drew ?_ | refine blk_alloc ?_ _)); refine blk_put (cs := #[.int .i64 t298, .int .i64 0]) ?_ 1 _ rfl; (with_reducible repeat (first | refine blk_drewN ?_ _ | refine blk_drew ?_ | refine blk_alloc ?_ _)); refine blk_put (cs := #[.int .i64 0, .int .i64 0]) ?_ 0 _ rfl; (with_reducible repeat (first | refine blk_drewN ?_ _ | refine blk_drew ?_ | refine blk_alloc ?_ _)); exact BK301.out⟩, ⟨by repeat (first | (with_reducible first | exact HB.out | apply below_alloc | apply pw_below_drewN | apply below_drew1 | refine below_set ?_ GE289.out | refine below_set ?_ GE293.out | refine below_set ?_ GE297.out | refine below_set ?_ GE301.out) | exact HB.out)⟩⟩
                    · rw [if_neg c53] at H
                      have c53b0 : (!(t298 == t286) || (!(t299 == t287))) = false := by simpa using c53
                      clear c53
                      by_cases c61 : t287 < 1
                      · rw [if_pos c61] at H
                        have c61b0 : decide (t287 < 1) = true := decide_eq_true c61
                        clear c61
                        have H' := Aside0.mk H
                        clear H
                        have hnb62 := NB301_289.out
                        have hnc62 := NB289_301.out
                        have hnb63 := NB301_293.out
                        have hnc63 := NB293_301.out
                        have hnb64 := NB301_297.out
                        have hnc64 := NB297_301.out
                        have hcz65_0 : w43.cell? ⟨gb301, 0, none⟩ = some (.int .i64 0) := (blk_cell BK301.out 0).trans rfl
                        have hcz65_1 : w43.cell? ⟨gb301, 1, none⟩ = some (.int .i64 0) := (blk_cell BK301.out 1).trans rfl
                        have hfz65_0 := blk_frozen BK301.out 0
                        have hfz65_1 := blk_frozen BK301.out 1
                        have hnb66 := NB289_293.out
                        have hnc66 := NB293_289.out
                        have hnb67 := NB289_297.out
                        have hnc67 := NB297_289.out
                        have hcz68_0 : w43.cell? ⟨gb289, 0, none⟩ = some (.int .i64 t286) := (blk_cell BK289.out 0).trans rfl
                        have hcz68_1 : w43.cell? ⟨gb289, 1, none⟩ = some (.int .i64 t287) := (blk_cell BK289.out 1).trans rfl
                        have hfz68_0 := blk_frozen BK289.out 0
                        have hfz68_1 := blk_frozen BK289.out 1
                        go_wp2
                        go_meet
                        case rel => exact ⟨_, (true), (by first | rfl | (simp; done) | (simp [*]; done)), H', ⟨by have := HK1.out; first | omega | exact Nat.le_refl _⟩, ⟨by (try simp only [hl4_1]); (try simp only [hl5_1]); (with_reducible repeat (first | refine blk_drewN ?_ _ | refine blk_drew ?_ | refine blk_alloc ?_ _)); refine blk_far ?_ NB289_301.out _; (with_reducible repeat (first | refine blk_drewN ?_ _ | refine blk_drew ?_ | refine blk_alloc ?_ _)); refine blk_far ?_ NB289_301.out _; (with_reducible repeat (first | refine blk_drewN ?_ _ | refine blk_drew ?_ | refine blk_alloc ?_ _)); exact BK289.out⟩, ⟨by (try simp only [hl4_1]); (try simp only [hl5_1]); (with_reducible repeat (first | refine blk_drewN ?_ _ | refine blk_drew ?_ | refine blk_alloc ?_ _)); refine blk_far ?_ NB293_301.out _; (with_reducible repeat (first | refine blk_drewN ?_ _ | refine blk_drew ?_ | refine blk_alloc ?_ _)); refine blk_far ?_ NB293_301.out _; (with_reducible repeat (first | refine blk_drewN ?_ _ | refine blk_drew ?_ | refine blk_alloc ?_ _)); exact BK293.out⟩, ⟨by (try simp only [hl4_1]); (try simp only [hl5_1]); (with_reducible repeat (first | refine blk_drewN ?_ _ | refine blk_drew ?_ | refine blk_alloc ?_ _)); refine blk_far ?_ NB297_301.out _; (with_reducible repeat (first | refine blk_drewN ?_ _ | refine blk_drew ?_ | refine blk_alloc ?_ _)); refine blk_far ?_ NB297_301.out _; (with_reducible repeat (first | refine blk_drewN ?_ _ | refine blk_drew ?_ | refine blk_alloc ?_ _)); exact BK297.out⟩, ⟨by (try simp only [hl4_1]); (try simp only [hl5_1]); (with_reducible repeat (first | refine blk_drewN ?_ _ | refine blk_drew ?_ | refine blk_alloc ?_ _)); refine blk_put (cs := #[.int .i64 t298, .int .i64 0]) ?_ 1 _ rfl; (with_reducible repeat (first | refine blk_drewN ?_ _ | refine blk_drew ?_ | refine blk_alloc ?_ _)); refine blk_put (cs := #[.int .i64 0, .int .i64 0]) ?_ 0 _ rfl; (with_reducible repeat (first | refine blk_drewN ?_ _ | refine blk_drew ?_ | refine blk_alloc ?_ _)); exact BK301.out⟩, ⟨by repeat (first | (with_reducible first | exact HB.out | apply below_alloc | apply pw_below_drewN | apply below_drew1 | refine below_set ?_ GE289.out | refine below_set ?_ GE293.out | refine below_set ?_ GE297.out | refine below_set ?_ GE301.out) | exact HB.out)⟩⟩
                      · rw [if_neg c61] at H
                        have c61b0 : decide (t287 < 1) = false := decide_eq_false c61
                        clear c61
                        by_cases c69 : t291 < 1
                        · rw [if_pos c69] at H
                          have c69b0 : decide (t291 < 1) = true := decide_eq_true c69
                          clear c69
                          have H' := Aside0.mk H
                          clear H
                          have hnb70 := NB301_289.out
                          have hnc70 := NB289_301.out
                          have hnb71 := NB301_293.out
                          have hnc71 := NB293_301.out
                          have hnb72 := NB301_297.out
                          have hnc72 := NB297_301.out
                          have hcz73_0 : w43.cell? ⟨gb301, 0, none⟩ = some (.int .i64 0) := (blk_cell BK301.out 0).trans rfl
                          have hcz73_1 : w43.cell? ⟨gb301, 1, none⟩ = some (.int .i64 0) := (blk_cell BK301.out 1).trans rfl
                          have hfz73_0 := blk_frozen BK301.out 0
                          have hfz73_1 := blk_frozen BK301.out 1
                          have hnb74 := NB289_293.out
                          have hnc74 := NB293_289.out
                          have hnb75 := NB289_297.out
                          have hnc75 := NB297_289.out
                          have hcz76_0 : w43.cell? ⟨gb289, 0, none⟩ = some (.int .i64 t286) := (blk_cell BK289.out 0).trans rfl
                          have hcz76_1 : w43.cell? ⟨gb289, 1, none⟩ = some (.int .i64 t287) := (blk_cell BK289.out 1).trans rfl
                          have hfz76_0 := blk_frozen BK289.out 0
                          have hfz76_1 := blk_frozen BK289.out 1
                          have hnb77 := NB293_297.out
                          have hnc77 := NB297_293.out
                          have hcz78_0 : w43.cell? ⟨gb293, 0, none⟩ = some (.int .i64 t290) := (blk_cell BK293.out 0).trans rfl
                          have hcz78_1 : w43.cell? ⟨gb293, 1, none⟩ = some (.int .i64 t291) := (blk_cell BK293.out 1).trans rfl
                          have hfz78_0 := blk_frozen BK293.out 0
                          have hfz78_1 := blk_frozen BK293.out 1
                          go_wp2
                          go_meet
                          case rel => exact ⟨_, (true), (by first | rfl | (simp; done) | (simp [*]; done)), H', ⟨by have := HK1.out; first | omega | exact Nat.le_refl _⟩, ⟨by (try simp only [hl4_1]); (try simp only [hl5_1]); (with_reducible repeat (first | refine blk_drewN ?_ _ | refine blk_drew ?_ | refine blk_alloc ?_ _)); refine blk_far ?_ NB289_301.out _; (with_reducible repeat (first | refine blk_drewN ?_ _ | refine blk_drew ?_ | refine blk_alloc ?_ _)); refine blk_far ?_ NB289_301.out _; (with_reducible repeat (first | refine blk_drewN ?_ _ | refine blk_drew ?_ | refine blk_alloc ?_ _)); exact BK289.out⟩, ⟨by (try simp only [hl4_1]); (try simp only [hl5_1]); (with_reducible repeat (first | refine blk_drewN ?_ _ | refine blk_drew ?_ | refine blk_alloc ?_ _)); refine blk_far ?_ NB293_301.out _; (with_reducible repeat (first | refine blk_drewN ?_ _ | refine blk_drew ?_ | refine blk_alloc ?_ _)); refine blk_far ?_ NB293_301.out _; (with_reducible repeat (first | refine blk_drewN ?_ _ | refine blk_drew ?_ | refine blk_alloc ?_ _)); exact BK293.out⟩, ⟨by (try simp only [hl4_1]); (try simp only [hl5_1]); (with_reducible repeat (first | refine blk_drewN ?_ _ | refine blk_drew ?_ | refine blk_alloc ?_ _)); refine blk_far ?_ NB297_301.out _; (with_reducible repeat (first | refine blk_drewN ?_ _ | refine blk_drew ?_ | refine blk_alloc ?_ _)); refine blk_far ?_ NB297_301.out _; (with_reducible repeat (first | refine blk_drewN ?_ _ | refine blk_drew ?_ | refine blk_alloc ?_ _)); exact BK297.out⟩, ⟨by (try simp only [hl4_1]); (try simp only [hl5_1]); (with_reducible repeat (first | refine blk_drewN ?_ _ | refine blk_drew ?_ | refine blk_alloc ?_ _)); refine blk_put (cs := #[.int .i64 t298, .int .i64 0]) ?_ 1 _ rfl; (with_reducible repeat (first | refine blk_drewN ?_ _ | refine blk_drew ?_ | refine blk_alloc ?_ _)); refine blk_put (cs := #[.int .i64 0, .int .i64 0]) ?_ 0 _ rfl; (with_reducible repeat (first | refine blk_drewN ?_ _ | refine blk_drew ?_ | refine blk_alloc ?_ _)); exact BK301.out⟩, ⟨by repeat (first | (with_reducible first | exact HB.out | apply below_alloc | apply pw_below_drewN | apply below_drew1 | refine below_set ?_ GE289.out | refine below_set ?_ GE293.out | refine below_set ?_ GE297.out | refine below_set ?_ GE301.out) | exact HB.out)⟩⟩
                        · rw [if_neg c69] at H
                          have c69b0 : decide (t291 < 1) = false := decide_eq_false c69
                          clear c69
                          by_cases c79 : t295 < 1
                          · rw [if_pos c79] at H
                            have c79b0 : decide (t295 < 1) = true := decide_eq_true c79
                            clear c79
                            have H' := Aside0.mk H
                            clear H
                            have hnb80 := NB301_289.out
                            have hnc80 := NB289_301.out
                            have hnb81 := NB301_293.out
                            have hnc81 := NB293_301.out
                            have hnb82 := NB301_297.out
                            have hnc82 := NB297_301.out
                            have hcz83_0 : w43.cell? ⟨gb301, 0, none⟩ = some (.int .i64 0) := (blk_cell BK301.out 0).trans rfl
                            have hcz83_1 : w43.cell? ⟨gb301, 1, none⟩ = some (.int .i64 0) := (blk_cell BK301.out 1).trans rfl
                            have hfz83_0 := blk_frozen BK301.out 0
                            have hfz83_1 := blk_frozen BK301.out 1
                            have hnb84 := NB289_293.out
                            have hnc84 := NB293_289.out
                            have hnb85 := NB289_297.out
                            have hnc85 := NB297_289.out
                            have hcz86_0 : w43.cell? ⟨gb289, 0, none⟩ = some (.int .i64 t286) := (blk_cell BK289.out 0).trans rfl
                            have hcz86_1 : w43.cell? ⟨gb289, 1, none⟩ = some (.int .i64 t287) := (blk_cell BK289.out 1).trans rfl
                            have hfz86_0 := blk_frozen BK289.out 0
                            have hfz86_1 := blk_frozen BK289.out 1
                            have hnb87 := NB293_297.out
                            have hnc87 := NB297_293.out
                            have hcz88_0 : w43.cell? ⟨gb293, 0, none⟩ = some (.int .i64 t290) := (blk_cell BK293.out 0).trans rfl
                            have hcz88_1 : w43.cell? ⟨gb293, 1, none⟩ = some (.int .i64 t291) := (blk_cell BK293.out 1).trans rfl
                            have hfz88_0 := blk_frozen BK293.out 0
                            have hfz88_1 := blk_frozen BK293.out 1
                            have hcz89_0 : w43.cell? ⟨gb297, 0, none⟩ = some (.int .i64 t294) := (blk_cell BK297.out 0).trans rfl
                            have hcz89_1 : w43.cell? ⟨gb297, 1, none⟩ = some (.int .i64 t295) := (blk_cell BK297.out 1).trans rfl
                            have hfz89_0 := blk_frozen BK297.out 0
                            have hfz89_1 := blk_frozen BK297.out 1
                            go_wp2
                            go_meet
                            case rel => exact ⟨_, (true), (by first | rfl | (simp; done) | (simp [*]; done)), H', ⟨by have := HK1.out; first | omega | exact Nat.le_refl _⟩, ⟨by (try simp only [hl4_1]); (try simp only [hl5_1]); (with_reducible repeat (first | refine blk_drewN ?_ _ | refine blk_drew ?_ | refine blk_alloc ?_ _)); refine blk_far ?_ NB289_301.out _; (with_reducible repeat (first | refine blk_drewN ?_ _ | refine blk_drew ?_ | refine blk_alloc ?_ _)); refine blk_far ?_ NB289_301.out _; (with_reducible repeat (first | refine blk_drewN ?_ _ | refine blk_drew ?_ | refine blk_alloc ?_ _)); exact BK289.out⟩, ⟨by (try simp only [hl4_1]); (try simp only [hl5_1]); (with_reducible repeat (first | refine blk_drewN ?_ _ | refine blk_drew ?_ | refine blk_alloc ?_ _)); refine blk_far ?_ NB293_301.out _; (with_reducible repeat (first | refine blk_drewN ?_ _ | refine blk_drew ?_ | refine blk_alloc ?_ _)); refine blk_far ?_ NB293_301.out _; (with_reducible repeat (first | refine blk_drewN ?_ _ | refine blk_drew ?_ | refine blk_alloc ?_ _)); exact BK293.out⟩, ⟨by (try simp only [hl4_1]); (try simp only [hl5_1]); (with_reducible repeat (first | refine blk_drewN ?_ _ | refine blk_drew ?_ | refine blk_alloc ?_ _)); refine blk_far ?_ NB297_301.out _; (with_reducible repeat (first | refine blk_drewN ?_ _ | refine blk_drew ?_ | refine blk_alloc ?_ _)); refine blk_far ?_ NB297_301.out _; (with_reducible repeat (first | refine blk_drewN ?_ _ | refine blk_drew ?_ | refine blk_alloc ?_ _)); exact BK297.out⟩, ⟨by (try simp only [hl4_1]); (try simp only [hl5_1]); (with_reducible repeat (first | refine blk_drewN ?_ _ | refine blk_drew ?_ | refine blk_alloc ?_ _)); refine blk_put (cs := #[.int .i64 t298, .int .i64 0]) ?_ 1 _ rfl; (with_reducible repeat (first | refine blk_drewN ?_ _ | refine blk_drew ?_ | refine blk_alloc ?_ _)); refine blk_put (cs := #[.int .i64 0, .int .i64 0]) ?_ 0 _ rfl; (with_reducible repeat (first | refine blk_drewN ?_ _ | refine blk_drew ?_ | refine blk_alloc ?_ _)); exact BK301.out⟩, ⟨by repeat (first | (with_reducible first | exact HB.out | apply below_alloc | apply pw_below_drewN | apply below_drew1 | refine below_set ?_ GE289.out | refine below_set ?_ GE293.out | refine below_set ?_ GE297.out | refine below_set ?_ GE301.out) | exact HB.out)⟩⟩
                          · rw [if_neg c79] at H
                            have c79b0 : decide (t295 < 1) = false := decide_eq_false c79
                            clear c79
                            by_cases c90 : t287 = 0
                            · rw [if_pos c90] at H
                              exact absurd H (by simp)
                            · rw [if_neg c90] at H
                              have c90b0 : (t287 == 0) = false := beq_eq_false_iff_ne.mpr c90
                              have c90b1 : (t287 != 0) = true := bne_iff_ne.mpr c90
                              by_cases c91 : ((x4_1.length : Int) % t287) = 0
                              · rw [if_pos c91] at H
                                have c91b0 : (((x4_1.length : Int) % t287) == 0) = true := beq_iff_eq.mpr c91
                                have c91b1 : (((x4_1.length : Int) % t287) != 0) = false := bne_eq_false_iff_eq.mpr c91
                                (try (have c91b0h := c91b0; simp only [hl4_1, hl5_1] at c91b0h))
                                (try (have c91b1h := c91b1; simp only [hl4_1, hl5_1] at c91b1h))
                                clear c91
                                by_cases c92 : t291 = 0
                                · rw [if_pos c92] at H
                                  exact absurd H (by simp)
                                · rw [if_neg c92] at H
                                  have c92b0 : (t291 == 0) = false := beq_eq_false_iff_ne.mpr c92
                                  have c92b1 : (t291 != 0) = true := bne_iff_ne.mpr c92
                                  by_cases c93 : ((x4_1.length : Int) % t291) = 0
                                  · rw [if_pos c93] at H
                                    have c93b0 : (((x4_1.length : Int) % t291) == 0) = true := beq_iff_eq.mpr c93
                                    have c93b1 : (((x4_1.length : Int) % t291) != 0) = false := bne_eq_false_iff_eq.mpr c93
                                    (try (have c93b0h := c93b0; simp only [hl4_1, hl5_1] at c93b0h))
                                    (try (have c93b1h := c93b1; simp only [hl4_1, hl5_1] at c93b1h))
                                    clear c93
                                    by_cases c94 : t295 = 0
                                    · rw [if_pos c94] at H
                                      exact absurd H (by simp)
                                    · rw [if_neg c94] at H
                                      have c94b0 : (t295 == 0) = false := beq_eq_false_iff_ne.mpr c94
                                      have c94b1 : (t295 != 0) = true := bne_iff_ne.mpr c94
                                      have H' := Aside0.mk H
                                      clear H
                                      have hnb95 := NB301_289.out
                                      have hnc95 := NB289_301.out
                                      have hnb96 := NB301_293.out
                                      have hnc96 := NB293_301.out
                                      have hnb97 := NB301_297.out
                                      have hnc97 := NB297_301.out
                                      have hcz98_0 : w43.cell? ⟨gb301, 0, none⟩ = some (.int .i64 0) := (blk_cell BK301.out 0).trans rfl
                                      have hcz98_1 : w43.cell? ⟨gb301, 1, none⟩ = some (.int .i64 0) := (blk_cell BK301.out 1).trans rfl
                                      have hfz98_0 := blk_frozen BK301.out 0
                                      have hfz98_1 := blk_frozen BK301.out 1
                                      have hnb99 := NB289_293.out
                                      have hnc99 := NB293_289.out
                                      have hnb100 := NB289_297.out
                                      have hnc100 := NB297_289.out
                                      have hcz101_0 : w43.cell? ⟨gb289, 0, none⟩ = some (.int .i64 t286) := (blk_cell BK289.out 0).trans rfl
                                      have hcz101_1 : w43.cell? ⟨gb289, 1, none⟩ = some (.int .i64 t287) := (blk_cell BK289.out 1).trans rfl
                                      have hfz101_0 := blk_frozen BK289.out 0
                                      have hfz101_1 := blk_frozen BK289.out 1
                                      have hnb102 := NB293_297.out
                                      have hnc102 := NB297_293.out
                                      have hcz103_0 : w43.cell? ⟨gb293, 0, none⟩ = some (.int .i64 t290) := (blk_cell BK293.out 0).trans rfl
                                      have hcz103_1 : w43.cell? ⟨gb293, 1, none⟩ = some (.int .i64 t291) := (blk_cell BK293.out 1).trans rfl
                                      have hfz103_0 := blk_frozen BK293.out 0
                                      have hfz103_1 := blk_frozen BK293.out 1
                                      have hcz104_0 : w43.cell? ⟨gb297, 0, none⟩ = some (.int .i64 t294) := (blk_cell BK297.out 0).trans rfl
                                      have hcz104_1 : w43.cell? ⟨gb297, 1, none⟩ = some (.int .i64 t295) := (blk_cell BK297.out 1).trans rfl
                                      have hfz104_0 := blk_frozen BK297.out 0
                                      have hfz104_1 := blk_frozen BK297.out 1
                                      go_wp2
                                      go_meet
                                      case rel => exact ⟨_, ((((x4_1.length : Int) % t295) != 0)), (by first | rfl | (simp; done) | (simp [*]; done)), H', ⟨by have := HK1.out; first | omega | exact Nat.le_refl _⟩, ⟨by (try simp only [hl4_1]); (try simp only [hl5_1]); (with_reducible repeat (first | refine blk_drewN ?_ _ | refine blk_drew ?_ | refine blk_alloc ?_ _)); refine blk_far ?_ NB289_301.out _; (with_reducible repeat (first | refine blk_drewN ?_ _ | refine blk_drew ?_ | refine blk_alloc ?_ _)); refine blk_far ?_ NB289_301.out _; (with_reducible repeat (first | refine blk_drewN ?_ _ | refine blk_drew ?_ | refine blk_alloc ?_ _)); exact BK289.out⟩, ⟨by (try simp only [hl4_1]); (try simp only [hl5_1]); (with_reducible repeat (first | refine blk_drewN ?_ _ | refine blk_drew ?_ | refine blk_alloc ?_ _)); refine blk_far ?_ NB293_301.out _; (with_reducible repeat (first | refine blk_drewN ?_ _ | refine blk_drew ?_ | refine blk_alloc ?_ _)); refine blk_far ?_ NB293_301.out _; (with_reducible repeat (first | refine blk_drewN ?_ _ | refine blk_drew ?_ | refine blk_alloc ?_ _)); exact BK293.out⟩, ⟨by (try simp only [hl4_1]); (try simp only [hl5_1]); (with_reducible repeat (first | refine blk_drewN ?_ _ | refine blk_drew ?_ | refine blk_alloc ?_ _)); refine blk_far ?_ NB297_301.out _; (with_reducible repeat (first | refine blk_drewN ?_ _ | refine blk_drew ?_ | refine blk_alloc ?_ _)); refine blk_far ?_ NB297_301.out _; (with_reducible repeat (first | refine blk_drewN ?_ _ | refine blk_drew ?_ | refine blk_alloc ?_ _)); exact BK297.out⟩, ⟨by (try simp only [hl4_1]); (try simp only [hl5_1]); (with_reducible repeat (first | refine blk_drewN ?_ _ | refine blk_drew ?_ | refine blk_alloc ?_ _)); refine blk_put (cs := #[.int .i64 t298, .int .i64 0]) ?_ 1 _ rfl; (with_reducible repeat (first | refine blk_drewN ?_ _ | refine blk_drew ?_ | refine blk_alloc ?_ _)); refine blk_put (cs := #[.int .i64 0, .int .i64 0]) ?_ 0 _ rfl; (with_reducible repeat (first | refine blk_drewN ?_ _ | refine blk_drew ?_ | refine blk_alloc ?_ _)); exact BK301.out⟩, ⟨by repeat (first | (with_reducible first | exact HB.out | apply below_alloc | apply pw_below_drewN | apply below_drew1 | refine below_set ?_ GE289.out | refine below_set ?_ GE293.out | refine below_set ?_ GE297.out | refine below_set ?_ GE301.out) | exact HB.out)⟩⟩
                                  · rw [if_neg c93] at H
                                    have c93b0 : (((x4_1.length : Int) % t291) == 0) = false := beq_eq_false_iff_ne.mpr c93
                                    have c93b1 : (((x4_1.length : Int) % t291) != 0) = true := bne_iff_ne.mpr c93
                                    (try (have c93b0h := c93b0; simp only [hl4_1, hl5_1] at c93b0h))
                                    (try (have c93b1h := c93b1; simp only [hl4_1, hl5_1] at c93b1h))
                                    have H' := Aside0.mk H
                                    clear H
                                    have hnb105 := NB301_289.out
                                    have hnc105 := NB289_301.out
                                    have hnb106 := NB301_293.out
                                    have hnc106 := NB293_301.out
                                    have hnb107 := NB301_297.out
                                    have hnc107 := NB297_301.out
                                    have hcz108_0 : w43.cell? ⟨gb301, 0, none⟩ = some (.int .i64 0) := (blk_cell BK301.out 0).trans rfl
                                    have hcz108_1 : w43.cell? ⟨gb301, 1, none⟩ = some (.int .i64 0) := (blk_cell BK301.out 1).trans rfl
                                    have hfz108_0 := blk_frozen BK301.out 0
                                    have hfz108_1 := blk_frozen BK301.out 1
                                    have hnb109 := NB289_293.out
                                    have hnc109 := NB293_289.out
                                    have hnb110 := NB289_297.out
                                    have hnc110 := NB297_289.out
                                    have hcz111_0 : w43.cell? ⟨gb289, 0, none⟩ = some (.int .i64 t286) := (blk_cell BK289.out 0).trans rfl
                                    have hcz111_1 : w43.cell? ⟨gb289, 1, none⟩ = some (.int .i64 t287) := (blk_cell BK289.out 1).trans rfl
                                    have hfz111_0 := blk_frozen BK289.out 0
                                    have hfz111_1 := blk_frozen BK289.out 1
                                    have hnb112 := NB293_297.out
                                    have hnc112 := NB297_293.out
                                    have hcz113_0 : w43.cell? ⟨gb293, 0, none⟩ = some (.int .i64 t290) := (blk_cell BK293.out 0).trans rfl
                                    have hcz113_1 : w43.cell? ⟨gb293, 1, none⟩ = some (.int .i64 t291) := (blk_cell BK293.out 1).trans rfl
                                    have hfz113_0 := blk_frozen BK293.out 0
                                    have hfz113_1 := blk_frozen BK293.out 1
                                    have hcz114_0 : w43.cell? ⟨gb297, 0, none⟩ = some (.int .i64 t294) := (blk_cell BK297.out 0).trans rfl
                                    have hcz114_1 : w43.cell? ⟨gb297, 1, none⟩ = some (.int .i64 t295) := (blk_cell BK297.out 1).trans rfl
                                    have hfz114_0 := blk_frozen BK297.out 0
                                    have hfz114_1 := blk_frozen BK297.out 1
                                    go_wp2
                                    go_meet
                                    case rel => exact ⟨_, (true), (by first | rfl | (simp; done) | (simp [*]; done)), H', ⟨by have := HK1.out; first | omega | exact Nat.le_refl _⟩, ⟨by (try simp only [hl4_1]); (try simp only [hl5_1]); (with_reducible repeat (first | refine blk_drewN ?_ _ | refine blk_drew ?_ | refine blk_alloc ?_ _)); refine blk_far ?_ NB289_301.out _; (with_reducible repeat (first | refine blk_drewN ?_ _ | refine blk_drew ?_ | refine blk_alloc ?_ _)); refine blk_far ?_ NB289_301.out _; (with_reducible repeat (first | refine blk_drewN ?_ _ | refine blk_drew ?_ | refine blk_alloc ?_ _)); exact BK289.out⟩, ⟨by (try simp only [hl4_1]); (try simp only [hl5_1]); (with_reducible repeat (first | refine blk_drewN ?_ _ | refine blk_drew ?_ | refine blk_alloc ?_ _)); refine blk_far ?_ NB293_301.out _; (with_reducible repeat (first | refine blk_drewN ?_ _ | refine blk_drew ?_ | refine blk_alloc ?_ _)); refine blk_far ?_ NB293_301.out _; (with_reducible repeat (first | refine blk_drewN ?_ _ | refine blk_drew ?_ | refine blk_alloc ?_ _)); exact BK293.out⟩, ⟨by (try simp only [hl4_1]); (try simp only [hl5_1]); (with_reducible repeat (first | refine blk_drewN ?_ _ | refine blk_drew ?_ | refine blk_alloc ?_ _)); refine blk_far ?_ NB297_301.out _; (with_reducible repeat (first | refine blk_drewN ?_ _ | refine blk_drew ?_ | refine blk_alloc ?_ _)); refine blk_far ?_ NB297_301.out _; (with_reducible repeat (first | refine blk_drewN ?_ _ | refine blk_drew ?_ | refine blk_alloc ?_ _)); exact BK297.out⟩, ⟨by (try simp only [hl4_1]); (try simp only [hl5_1]); (with_reducible repeat (first | refine blk_drewN ?_ _ | refine blk_drew ?_ | refine blk_alloc ?_ _)); refine blk_put (cs := #[.int .i64 t298, .int .i64 0]) ?_ 1 _ rfl; (with_reducible repeat (first | refine blk_drewN ?_ _ | refine blk_drew ?_ | refine blk_alloc ?_ _)); refine blk_put (cs := #[.int .i64 0, .int .i64 0]) ?_ 0 _ rfl; (with_reducible repeat (first | refine blk_drewN ?_ _ | refine blk_drew ?_ | refine blk_alloc ?_ _)); exact BK301.out⟩, ⟨by repeat (first | (with_reducible first | exact HB.out | apply below_alloc | apply pw_below_drewN | apply below_drew1 | refine below_set ?_ GE289.out | refine below_set ?_ GE293.out | refine below_set ?_ GE297.out | refine below_set ?_ GE301.out) | exact HB.out)⟩⟩
                              · rw [if_neg c91] at H
                                have c91b0 : (((x4_1.length : Int) % t287) == 0) = false := beq_eq_false_iff_ne.mpr c91
                                have c91b1 : (((x4_1.length : Int) % t287) != 0) = true := bne_iff_ne.mpr c91
                                (try (have c91b0h := c91b0; simp only [hl4_1, hl5_1] at c91b0h))
                                (try (have c91b1h := c91b1; simp only [hl4_1, hl5_1] at c91b1h))
                                have H' := Aside0.mk H
                                clear H
                                have hnb115 := NB301_289.out
                                have hnc115 := NB289_301.out
                                have hnb116 := NB301_293.out
                                have hnc116 := NB293_301.out
                                have hnb117 := NB301_297.out
                                have hnc117 := NB297_301.out
                                have hcz118_0 : w43.cell? ⟨gb301, 0, none⟩ = some (.int .i64 0) := (blk_cell BK301.out 0).trans rfl
                                have hcz118_1 : w43.cell? ⟨gb301, 1, none⟩ = some (.int .i64 0) := (blk_cell BK301.out 1).trans rfl
                                have hfz118_0 := blk_frozen BK301.out 0
                                have hfz118_1 := blk_frozen BK301.out 1
                                have hnb119 := NB289_293.out
                                have hnc119 := NB293_289.out
                                have hnb120 := NB289_297.out
                                have hnc120 := NB297_289.out
                                have hcz121_0 : w43.cell? ⟨gb289, 0, none⟩ = some (.int .i64 t286) := (blk_cell BK289.out 0).trans rfl
                                have hcz121_1 : w43.cell? ⟨gb289, 1, none⟩ = some (.int .i64 t287) := (blk_cell BK289.out 1).trans rfl
                                have hfz121_0 := blk_frozen BK289.out 0
                                have hfz121_1 := blk_frozen BK289.out 1
                                have hnb122 := NB293_297.out
                                have hnc122 := NB297_293.out
                                have hcz123_0 : w43.cell? ⟨gb293, 0, none⟩ = some (.int .i64 t290) := (blk_cell BK293.out 0).trans rfl
                                have hcz123_1 : w43.cell? ⟨gb293, 1, none⟩ = some (.int .i64 t291) := (blk_cell BK293.out 1).trans rfl
                                have hfz123_0 := blk_frozen BK293.out 0
                                have hfz123_1 := blk_frozen BK293.out 1
                                have hcz124_0 : w43.cell? ⟨gb297, 0, none⟩ = some (.int .i64 t294) := (blk_cell BK297.out 0).trans rfl
                                have hcz124_1 : w43.cell? ⟨gb297, 1, none⟩ = some (.int .i64 t295) := (blk_cell BK297.out 1).trans rfl
                                have hfz124_0 := blk_frozen BK297.out 0
                                have hfz124_1 := blk_frozen BK297.out 1
                                go_wp2
                                go_meet
                                case rel => exact ⟨_, (true), (by first | rfl | (simp; done) | (simp [*]; done)), H', ⟨by have := HK1.out; first | omega | exact Nat.le_refl _⟩, ⟨by (try simp only [hl4_1]); (try simp only [hl5_1]); (with_reducible repeat (first | refine blk_drewN ?_ _ | refine blk_drew ?_ | refine blk_alloc ?_ _)); refine blk_far ?_ NB289_301.out _; (with_reducible repeat (first | refine blk_drewN ?_ _ | refine blk_drew ?_ | refine blk_alloc ?_ _)); refine blk_far ?_ NB289_301.out _; (with_reducible repeat (first | refine blk_drewN ?_ _ | refine blk_drew ?_ | refine blk_alloc ?_ _)); exact BK289.out⟩, ⟨by (try simp only [hl4_1]); (try simp only [hl5_1]); (with_reducible repeat (first | refine blk_drewN ?_ _ | refine blk_drew ?_ | refine blk_alloc ?_ _)); refine blk_far ?_ NB293_301.out _; (with_reducible repeat (first | refine blk_drewN ?_ _ | refine blk_drew ?_ | refine blk_alloc ?_ _)); refine blk_far ?_ NB293_301.out _; (with_reducible repeat (first | refine blk_drewN ?_ _ | refine blk_drew ?_ | refine blk_alloc ?_ _)); exact BK293.out⟩, ⟨by (try simp only [hl4_1]); (try simp only [hl5_1]); (with_reducible repeat (first | refine blk_drewN ?_ _ | refine blk_drew ?_ | refine blk_alloc ?_ _)); refine blk_far ?_ NB297_301.out _; (with_reducible repeat (first | refine blk_drewN ?_ _ | refine blk_drew ?_ | refine blk_alloc ?_ _)); refine blk_far ?_ NB297_301.out _; (with_reducible repeat (first | refine blk_drewN ?_ _ | refine blk_drew ?_ | refine blk_alloc ?_ _)); exact BK297.out⟩, ⟨by (try simp only [hl4_1]); (try simp only [hl5_1]); (with_reducible repeat (first | refine blk_drewN ?_ _ | refine blk_drew ?_ | refine blk_alloc ?_ _)); refine blk_put (cs := #[.int .i64 t298, .int .i64 0]) ?_ 1 _ rfl; (with_reducible repeat (first | refine blk_drewN ?_ _ | refine blk_drew ?_ | refine blk_alloc ?_ _)); refine blk_put (cs := #[.int .i64 0, .int .i64 0]) ?_ 0 _ rfl; (with_reducible repeat (first | refine blk_drewN ?_ _ | refine blk_drew ?_ | refine blk_alloc ?_ _)); exact BK301.out⟩, ⟨by repeat (first | (with_reducible first | exact HB.out | apply below_alloc | apply pw_below_drewN | apply below_drew1 | refine below_set ?_ GE289.out | refine below_set ?_ GE293.out | refine below_set ?_ GE297.out | refine below_set ?_ GE301.out) | exact HB.out)⟩⟩
                  · rw [if_neg c52] at H
                    have c52b0 : (t303 == 0) = false := beq_eq_false_iff_ne.mpr c52
                    have c52b1 : (t303 != 0) = true := bne_iff_ne.mpr c52
                    have H' := Aside0.mk H
                    clear H
                    go_wp2
                    go_meet
                    case rel => exact ⟨_, (true), (by first | rfl | (simp; done) | (simp [*]; done)), H', ⟨by have := HK1.out; first | omega | exact Nat.le_refl _⟩, ⟨by (try simp only [hl4_1]); (try simp only [hl5_1]); (with_reducible repeat (first | refine blk_drewN ?_ _ | refine blk_drew ?_ | refine blk_alloc ?_ _)); refine blk_far ?_ NB289_301.out _; (with_reducible repeat (first | refine blk_drewN ?_ _ | refine blk_drew ?_ | refine blk_alloc ?_ _)); refine blk_far ?_ NB289_301.out _; (with_reducible repeat (first | refine blk_drewN ?_ _ | refine blk_drew ?_ | refine blk_alloc ?_ _)); exact BK289.out⟩, ⟨by (try simp only [hl4_1]); (try simp only [hl5_1]); (with_reducible repeat (first | refine blk_drewN ?_ _ | refine blk_drew ?_ | refine blk_alloc ?_ _)); refine blk_far ?_ NB293_301.out _; (with_reducible repeat (first | refine blk_drewN ?_ _ | refine blk_drew ?_ | refine blk_alloc ?_ _)); refine blk_far ?_ NB293_301.out _; (with_reducible repeat (first | refine blk_drewN ?_ _ | refine blk_drew ?_ | refine blk_alloc ?_ _)); exact BK293.out⟩, ⟨by (try simp only [hl4_1]); (try simp only [hl5_1]); (with_reducible repeat (first | refine blk_drewN ?_ _ | refine blk_drew ?_ | refine blk_alloc ?_ _)); refine blk_far ?_ NB297_301.out _; (with_reducible repeat (first | refine blk_drewN ?_ _ | refine blk_drew ?_ | refine blk_alloc ?_ _)); refine blk_far ?_ NB297_301.out _; (with_reducible repeat (first | refine blk_drewN ?_ _ | refine blk_drew ?_ | refine blk_alloc ?_ _)); exact BK297.out⟩, ⟨by (try simp only [hl4_1]); (try simp only [hl5_1]); (with_reducible repeat (first | refine blk_drewN ?_ _ | refine blk_drew ?_ | refine blk_alloc ?_ _)); refine blk_put (cs := #[.int .i64 t298, .int .i64 0]) ?_ 1 _ rfl; (with_reducible repeat (first | refine blk_drewN ?_ _ | refine blk_drew ?_ | refine blk_alloc ?_ _)); refine blk_put (cs := #[.int .i64 0, .int .i64 0]) ?_ 0 _ rfl; (with_reducible repeat (first | refine blk_drewN ?_ _ | refine blk_drew ?_ | refine blk_alloc ?_ _)); exact BK301.out⟩, ⟨by repeat (first | (with_reducible first | exact HB.out | apply below_alloc | apply pw_below_drewN | apply below_drew1 | refine below_set ?_ GE289.out | refine below_set ?_ GE293.out | refine below_set ?_ GE297.out | refine below_set ?_ GE301.out) | exact HB.out)⟩⟩
                · rw [if_neg c51] at H
                  have c51b0 : (t300 == 0) = false := beq_eq_false_iff_ne.mpr c51
                  have c51b1 : (t300 != 0) = true := bne_iff_ne.mpr c51
                  have H' := Aside0.mk H
                  clear H
                  go_wp2
                  go_meet
                  case rel => exact ⟨_, (true), (by first | rfl | (simp; done) | (simp [*]; done)), H', ⟨by have := HK1.out; first | omega | exact Nat.le_refl _⟩, ⟨by (try simp only [hl4_1]); (try simp only [hl5_1]); (with_reducible repeat (first | refine blk_drewN ?_ _ | refine blk_drew ?_ | refine blk_alloc ?_ _)); refine blk_far ?_ NB289_301.out _; (with_reducible repeat (first | refine blk_drewN ?_ _ | refine blk_drew ?_ | refine blk_alloc ?_ _)); refine blk_far ?_ NB289_301.out _; (with_reducible repeat (first | refine blk_drewN ?_ _ | refine blk_drew ?_ | refine blk_alloc ?_ _)); exact BK289.out⟩, ⟨by (try simp only [hl4_1]); (try simp only [hl5_1]); (with_reducible repeat (first | refine blk_drewN ?_ _ | refine blk_drew ?_ | refine blk_alloc ?_ _)); refine blk_far ?_ NB293_301.out _; (with_reducible repeat (first | refine blk_drewN ?_ _ | refine blk_drew ?_ | refine blk_alloc ?_ _)); refine blk_far ?_ NB293_301.out _; (with_reducible repeat (first | refine blk_drewN ?_ _ | refine blk_drew ?_ | refine blk_alloc ?_ _)); exact BK293.out⟩, ⟨by (try simp only [hl4_1]); (try simp only [hl5_1]); (with_reducible repeat (first | refine blk_drewN ?_ _ | refine blk_drew ?_ | refine blk_alloc ?_ _)); refine blk_far ?_ NB297_301.out _; (with_reducible repeat (first | refine blk_drewN ?_ _ | refine blk_drew ?_ | refine blk_alloc ?_ _)); refine blk_far ?_ NB297_301.out _; (with_reducible repeat (first | refine blk_drewN ?_ _ | refine blk_drew ?_ | refine blk_alloc ?_ _)); exact BK297.out⟩, ⟨by (try simp only [hl4_1]); (try simp only [hl5_1]); (with_reducible repeat (first | refine blk_drewN ?_ _ | refine blk_drew ?_ | refine blk_alloc ?_ _)); refine blk_put (cs := #[.int .i64 t298, .int .i64 0]) ?_ 1 _ rfl; (with_reducible repeat (first | refine blk_drewN ?_ _ | refine blk_drew ?_ | refine blk_alloc ?_ _)); refine blk_put (cs := #[.int .i64 0, .int .i64 0]) ?_ 0 _ rfl; (with_reducible repeat (first | refine blk_drewN ?_ _ | refine blk_drew ?_ | refine blk_alloc ?_ _)); exact BK301.out⟩, ⟨by repeat (first | (with_reducible first | exact HB.out | apply below_alloc | apply pw_below_drewN | apply below_drew1 | refine below_set ?_ GE289.out | refine below_set ?_ GE293.out | refine below_set ?_ GE297.out | refine below_set ?_ GE301.out) | exact HB.out)⟩⟩
              · rw [if_neg c50] at H
                have c50b0 : (t296 == 0) = false := beq_eq_false_iff_ne.mpr c50
                have c50b1 : (t296 != 0) = true := bne_iff_ne.mpr c50
                have H' := Aside0.mk H
                clear H
                go_wp2
                go_meet
                case rel => exact ⟨_, (true), (by first | rfl | (simp; done) | (simp [*]; done)), H', ⟨by have := HK1.out; first | omega | exact Nat.le_refl _⟩, ⟨by (try simp only [hl4_1]); (try simp only [hl5_1]); (with_reducible repeat (first | refine blk_drewN ?_ _ | refine blk_drew ?_ | refine blk_alloc ?_ _)); refine blk_far ?_ NB289_301.out _; (with_reducible repeat (first | refine blk_drewN ?_ _ | refine blk_drew ?_ | refine blk_alloc ?_ _)); refine blk_far ?_ NB289_301.out _; (with_reducible repeat (first | refine blk_drewN ?_ _ | refine blk_drew ?_ | refine blk_alloc ?_ _)); exact BK289.out⟩, ⟨by (try simp only [hl4_1]); (try simp only [hl5_1]); (with_reducible repeat (first | refine blk_drewN ?_ _ | refine blk_drew ?_ | refine blk_alloc ?_ _)); refine blk_far ?_ NB293_301.out _; (with_reducible repeat (first | refine blk_drewN ?_ _ | refine blk_drew ?_ | refine blk_alloc ?_ _)); refine blk_far ?_ NB293_301.out _; (with_reducible repeat (first | refine blk_drewN ?_ _ | refine blk_drew ?_ | refine blk_alloc ?_ _)); exact BK293.out⟩, ⟨by (try simp only [hl4_1]); (try simp only [hl5_1]); (with_reducible repeat (first | refine blk_drewN ?_ _ | refine blk_drew ?_ | refine blk_alloc ?_ _)); refine blk_far ?_ NB297_301.out _; (with_reducible repeat (first | refine blk_drewN ?_ _ | refine blk_drew ?_ | refine blk_alloc ?_ _)); refine blk_far ?_ NB297_301.out _; (with_reducible repeat (first | refine blk_drewN ?_ _ | refine blk_drew ?_ | refine blk_alloc ?_ _)); exact BK297.out⟩, ⟨by (try simp only [hl4_1]); (try simp only [hl5_1]); (with_reducible repeat (first | refine blk_drewN ?_ _ | refine blk_drew ?_ | refine blk_alloc ?_ _)); refine blk_put (cs := #[.int .i64 t298, .int .i64 0]) ?_ 1 _ rfl; (with_reducible repeat (first | refine blk_drewN ?_ _ | refine blk_drew ?_ | refine blk_alloc ?_ _)); refine blk_put (cs := #[.int .i64 0, .int .i64 0]) ?_ 0 _ rfl; (with_reducible repeat (first | refine blk_drewN ?_ _ | refine blk_drew ?_ | refine blk_alloc ?_ _)); exact BK301.out⟩, ⟨by repeat (first | (with_reducible first | exact HB.out | apply below_alloc | apply pw_below_drewN | apply below_drew1 | refine below_set ?_ GE289.out | refine below_set ?_ GE293.out | refine below_set ?_ GE297.out | refine below_set ?_ GE301.out) | exact HB.out)⟩⟩
            · rw [if_neg c49] at H
              have c49b0 : (t292 == 0) = false := beq_eq_false_iff_ne.mpr c49
              have c49b1 : (t292 != 0) = true := bne_iff_ne.mpr c49
              have H' := Aside0.mk H
              clear H
              go_wp2
              go_meet
              case rel => exact ⟨_, (true), (by first | rfl | (simp; done) | (simp [*]; done)), H', ⟨by have := HK1.out; first | omega | exact Nat.le_refl _⟩, ⟨by (try simp only [hl4_1]); (try simp only [hl5_1]); (with_reducible repeat (first | refine blk_drewN ?_ _ | refine blk_drew ?_ | refine blk_alloc ?_ _)); refine blk_far ?_ NB289_301.out _; (with_reducible repeat (first | refine blk_drewN ?_ _ | refine blk_drew ?_ | refine blk_alloc ?_ _)); refine blk_far ?_ NB289_301.out _; (with_reducible repeat (first | refine blk_drewN ?_ _ | refine blk_drew ?_ | refine blk_alloc ?_ _)); exact BK289.out⟩, ⟨by (try simp only [hl4_1]); (try simp only [hl5_1]); (with_reducible repeat (first | refine blk_drewN ?_ _ | refine blk_drew ?_ | refine blk_alloc ?_ _)); refine blk_far ?_ NB293_301.out _; (with_reducible repeat (first | refine blk_drewN ?_ _ | refine blk_drew ?_ | refine blk_alloc ?_ _)); refine blk_far ?_ NB293_301.out _; (with_reducible repeat (first | refine blk_drewN ?_ _ | refine blk_drew ?_ | refine blk_alloc ?_ _)); exact BK293.out⟩, ⟨by (try simp only [hl4_1]); (try simp only [hl5_1]); (with_reducible repeat (first | refine blk_drewN ?_ _ | refine blk_drew ?_ | refine blk_alloc ?_ _)); refine blk_far ?_ NB297_301.out _; (with_reducible repeat (first | refine blk_drewN ?_ _ | refine blk_drew ?_ | refine blk_alloc ?_ _)); refine blk_far ?_ NB297_301.out _; (with_reducible repeat (first | refine blk_drewN ?_ _ | refine blk_drew ?_ | refine blk_alloc ?_ _)); exact BK297.out⟩, ⟨by (try simp only [hl4_1]); (try simp only [hl5_1]); (with_reducible repeat (first | refine blk_drewN ?_ _ | refine blk_drew ?_ | refine blk_alloc ?_ _)); refine blk_put (cs := #[.int .i64 t298, .int .i64 0]) ?_ 1 _ rfl; (with_reducible repeat (first | refine blk_drewN ?_ _ | refine blk_drew ?_ | refine blk_alloc ?_ _)); refine blk_put (cs := #[.int .i64 0, .int .i64 0]) ?_ 0 _ rfl; (with_reducible repeat (first | refine blk_drewN ?_ _ | refine blk_drew ?_ | refine blk_alloc ?_ _)); exact BK301.out⟩, ⟨by repeat (first | (with_reducible first | exact HB.out | apply below_alloc | apply pw_below_drewN | apply below_drew1 | refine below_set ?_ GE289.out | refine below_set ?_ GE293.out | refine below_set ?_ GE297.out | refine below_set ?_ GE301.out) | exact HB.out)⟩⟩
          · rw [if_neg c48] at H
            have c48b0 : (t288 == 0) = false := beq_eq_false_iff_ne.mpr c48
            have c48b1 : (t288 != 0) = true := bne_iff_ne.mpr c48
            (first | rw [c48b0] | (simp only [i64_w, i32_w]; rw [c48b0]) | skip)
            have H' := Aside0.mk H
            clear H
            go_wp2
            go_meet
            case rel => exact ⟨_, (true), (by first | rfl | (simp; done) | (simp [*]; done)), H', ⟨by have := HK1.out; first | omega | exact Nat.le_refl _⟩, ⟨by (try simp only [hl4_1]); (try simp only [hl5_1]); (with_reducible repeat (first | refine blk_drewN ?_ _ | refine blk_drew ?_ | refine blk_alloc ?_ _)); refine blk_far ?_ NB289_301.out _; (with_reducible repeat (first | refine blk_drewN ?_ _ | refine blk_drew ?_ | refine blk_alloc ?_ _)); refine blk_far ?_ NB289_301.out _; (with_reducible repeat (first | refine blk_drewN ?_ _ | refine blk_drew ?_ | refine blk_alloc ?_ _)); exact BK289.out⟩, ⟨by (try simp only [hl4_1]); (try simp only [hl5_1]); (with_reducible repeat (first | refine blk_drewN ?_ _ | refine blk_drew ?_ | refine blk_alloc ?_ _)); refine blk_far ?_ NB293_301.out _; (with_reducible repeat (first | refine blk_drewN ?_ _ | refine blk_drew ?_ | refine blk_alloc ?_ _)); refine blk_far ?_ NB293_301.out _; (with_reducible repeat (first | refine blk_drewN ?_ _ | refine blk_drew ?_ | refine blk_alloc ?_ _)); exact BK293.out⟩, ⟨by (try simp only [hl4_1]); (try simp only [hl5_1]); (with_reducible repeat (first | refine blk_drewN ?_ _ | refine blk_drew ?_ | refine blk_alloc ?_ _)); refine blk_far ?_ NB297_301.out _; (with_reducible repeat (first | refine blk_drewN ?_ _ | refine blk_drew ?_ | refine blk_alloc ?_ _)); refine blk_far ?_ NB297_301.out _; (with_reducible repeat (first | refine blk_drewN ?_ _ | refine blk_drew ?_ | refine blk_alloc ?_ _)); exact BK297.out⟩, ⟨by (try simp only [hl4_1]); (try simp only [hl5_1]); (with_reducible repeat (first | refine blk_drewN ?_ _ | refine blk_drew ?_ | refine blk_alloc ?_ _)); refine blk_put (cs := #[.int .i64 t298, .int .i64 0]) ?_ 1 _ rfl; (with_reducible repeat (first | refine blk_drewN ?_ _ | refine blk_drew ?_ | refine blk_alloc ?_ _)); refine blk_put (cs := #[.int .i64 0, .int .i64 0]) ?_ 0 _ rfl; (with_reducible repeat (first | refine blk_drewN ?_ _ | refine blk_drew ?_ | refine blk_alloc ?_ _)); exact BK301.out⟩, ⟨by repeat (first | (with_reducible first | exact HB.out | apply below_alloc | apply pw_below_drewN | apply below_drew1 | refine below_set ?_ GE289.out | refine below_set ?_ GE293.out | refine below_set ?_ GE297.out | refine below_set ?_ GE301.out) | exact HB.out)⟩⟩
        case rest =>
          clear HC28
          try clear c1
          try clear p2
          try clear c3
          try clear c4
          try clear c5
          try clear c6
          try clear p6
          try clear c7
          try clear c8
          try clear c9
          try clear c10
          try clear c10b0
          try clear c11
          try clear c12
          try clear c13
          try clear c14
          try clear c16
          try clear c35
          try clear c39
          try clear c40
          try clear c44
          try clear c45
          try clear c46
          try clear c48
          try clear c48b0
          try clear c48b1
          try clear c49
          try clear c49b0
          try clear c49b1
          try clear c50
          try clear c50b0
          try clear c50b1
          try clear c51
          try clear c51b0
          try clear c51b1
          try clear c52
          try clear c52b0
          try clear c52b1
          try clear c53
          try clear c53b0
          try clear c54
          try clear c55
          try clear c56
          try clear c58
          try clear c59
          try clear c61
          try clear c61b0
          try clear c62
          try clear c63
          try clear c64
          try clear p64
          try clear c66
          try clear c67
          try clear c69
          try clear c69b0
          try clear c70
          try clear c71
          try clear c72
          try clear c74
          try clear c75
          try clear c77
          try clear c79
          try clear c79b0
          try clear c80
          try clear c81
          try clear c82
          try clear c84
          try clear c85
          try clear c87
          try clear c90
          try clear c90b0
          try clear c90b1
          try clear c91
          try clear c91b0
          try clear c91b1
          try clear c92
          try clear c92b0
          try clear c92b1
          try clear c93
          try clear c93b0
          try clear c93b1
          try clear c94
          try clear c94b0
          try clear c94b1
          try clear c95
          try clear c96
          try clear c97
          try clear c99
          try clear c100
          try clear c102
          try clear c105
          try clear c106
          try clear c107
          try clear c109
          try clear c110
          try clear c112
          try clear c115
          try clear c116
          try clear c117
          try clear c119
          try clear c120
          try clear c122
          try clear hcz101_0
          try clear hcz101_1
          try clear hcz103_0
          try clear hcz103_1
          try clear hcz104_0
          try clear hcz104_1
          try clear hcz108_0
          try clear hcz108_1
          try clear hcz111_0
          try clear hcz111_1
          try clear hcz113_0
          try clear hcz113_1
          try clear hcz114_0
          try clear hcz114_1
          try clear hcz118_0
          try clear hcz118_1
          try clear hcz121_0
          try clear hcz121_1
          try clear hcz123_0
          try clear hcz123_1
          try clear hcz124_0
          try clear hcz124_1
          try clear hcz31_0
          try clear hcz31_1
          try clear hcz36_0
          try clear hcz36_1
          try clear hcz41_0
          try clear hcz41_1
          try clear hcz47_0
          try clear hcz47_1
          try clear hcz57_0
          try clear hcz57_1
          try clear hcz60_0
          try clear hcz60_1
          try clear hcz65_0
          try clear hcz65_1
          try clear hcz68_0
          try clear hcz68_1
          try clear hcz73_0
          try clear hcz73_1
          try clear hcz76_0
          try clear hcz76_1
          try clear hcz78_0
          try clear hcz78_1
          try clear hcz83_0
          try clear hcz83_1
          try clear hcz86_0
          try clear hcz86_1
          try clear hcz88_0
          try clear hcz88_1
          try clear hcz89_0
          try clear hcz89_1
          try clear hcz98_0
          try clear hcz98_1
          try clear hfz101_0
          try clear hfz101_1
          try clear hfz103_0
          try clear hfz103_1
          try clear hfz104_0
          try clear hfz104_1
          try clear hfz108_0
          try clear hfz108_1
          try clear hfz111_0
          try clear hfz111_1
          try clear hfz113_0
          try clear hfz113_1
          try clear hfz114_0
          try clear hfz114_1
          try clear hfz118_0
          try clear hfz118_1
          try clear hfz121_0
          try clear hfz121_1
          try clear hfz123_0
          try clear hfz123_1
          try clear hfz124_0
          try clear hfz124_1
          try clear hfz31_0
          try clear hfz31_1
          try clear hfz36_0
          try clear hfz36_1
          try clear hfz41_0
          try clear hfz41_1
          try clear hfz47_0
          try clear hfz47_1
          try clear hfz57_0
          try clear hfz57_1
          try clear hfz60_0
          try clear hfz60_1
          try clear hfz65_0
          try clear hfz65_1
          try clear hfz68_0
          try clear hfz68_1
          try clear hfz73_0
          try clear hfz73_1
          try clear hfz76_0
          try clear hfz76_1
          try clear hfz78_0
          try clear hfz78_1
          try clear hfz83_0
          try clear hfz83_1
          try clear hfz86_0
          try clear hfz86_1
          try clear hfz88_0
          try clear hfz88_1
          try clear hfz89_0
          try clear hfz89_1
          try clear hfz98_0
          try clear hfz98_1
          obtain ⟨kq, x152_27, rfl, HA, HJ27, BK289, BK293, BK297, BK301, HB⟩ := hcut
          cases kq with
          | zero => exact absurd HA.out (by simp [shapesearchlaw12_EuclidRoots.j1])
          | succ kj27 =>
            have H := HA.out
            clear HA
            simp only [shapesearchlaw12_EuclidRoots.j1] at H
            by_cases c125 : x152_27 = true
            · subst c125
              have H1 : (some false) = some r := by rw [if_pos rfl] at H; exact H
              clear H
              have H := H1
              clear H1
              obtain rfl := Option.some.inj H
              go_wp2
              go_ret
              exact ⟨by first | rfl | (simp [errW_none, errW_some] <;> rfl) | (simp [*, errW_none, errW_some] <;> rfl), by repeat (first | (with_reducible first | exact HB.out | apply below_alloc | apply pw_below_drewN | apply below_drew1 | refine below_set ?_ GE289.out | refine below_set ?_ GE293.out | refine below_set ?_ GE297.out | refine below_set ?_ GE301.out) | exact HB.out)⟩
            · replace c125 := Bool.eq_false_iff.mpr c125
              subst c125
              have H1 : (if t287 = 0 then (none) else (if t291 = 0 then (none) else (if t295 = 0 then (none) else (if (wrap64 (t286 * (wrap64 (Int.tdiv (x4_1.length : Int) t287)))) ≤ (wrap64 (t302 * (x4_1.length : Int))) then (if (wrap64 (t294 * (wrap64 (Int.tdiv (x4_1.length : Int) t295)))) ≤ (wrap64 ((wrap64 (t286 * (wrap64 (Int.tdiv (x4_1.length : Int) t287)))) + (wrap64 (t290 * (wrap64 (Int.tdiv (x4_1.length : Int) t291)))))) then ((shapesearchlaw12_awake.f kj27).bind fun t304 => (some t304)) else (if (wrap64 ((wrap64 ((wrap64 ((wrap64 (t294 * (wrap64 (Int.tdiv (x4_1.length : Int) t295)))) - (wrap64 (t286 * (wrap64 (Int.tdiv (x4_1.length : Int) t287)))))) - (wrap64 (t290 * (wrap64 (Int.tdiv (x4_1.length : Int) t291)))))) * (wrap64 ((wrap64 ((wrap64 (t294 * (wrap64 (Int.tdiv (x4_1.length : Int) t295)))) - (wrap64 (t286 * (wrap64 (Int.tdiv (x4_1.length : Int) t287)))))) - (wrap64 (t290 * (wrap64 (Int.tdiv (x4_1.length : Int) t291)))))))) ≤ (wrap64 ((wrap64 (4 * (wrap64 (t286 * (wrap64 (Int.tdiv (x4_1.length : Int) t287)))))) * (wrap64 (t290 * (wrap64 (Int.tdiv (x4_1.length : Int) t291)))))) then ((shapesearchlaw12_awake.f kj27).bind fun t305 => (some t305)) else (some false))) else (some false))))) = some r := by rw [if_neg (show ¬ (false = true) by decide)] at H; exact H
              clear H
              have H := H1
              clear H1
              by_cases c126 : t287 = 0
              · rw [if_pos c126] at H
                exact absurd H (by simp)
              · rw [if_neg c126] at H
                have c126b0 : (t287 == 0) = false := beq_eq_false_iff_ne.mpr c126
                have c126b1 : (t287 != 0) = true := bne_iff_ne.mpr c126
                by_cases c127 : t291 = 0
                · rw [if_pos c127] at H
                  exact absurd H (by simp)
                · rw [if_neg c127] at H
                  have c127b0 : (t291 == 0) = false := beq_eq_false_iff_ne.mpr c127
                  have c127b1 : (t291 != 0) = true := bne_iff_ne.mpr c127
                  by_cases c128 : t295 = 0
                  · rw [if_pos c128] at H
                    exact absurd H (by simp)
                  · rw [if_neg c128] at H
                    have c128b0 : (t295 == 0) = false := beq_eq_false_iff_ne.mpr c128
                    have c128b1 : (t295 != 0) = true := bne_iff_ne.mpr c128
                    by_cases c129 : (wrap64 (t286 * (wrap64 (Int.tdiv (x4_1.length : Int) t287)))) ≤ (wrap64 (t302 * (x4_1.length : Int)))
                    · rw [if_pos c129] at H
                      have c129b0 : decide ((wrap64 (t286 * (wrap64 (Int.tdiv (x4_1.length : Int) t287)))) ≤ (wrap64 (t302 * (x4_1.length : Int)))) = true := decide_eq_true c129
                      (try (have c129b0d := c129b0; simp only [Int.tdiv_eq_ediv_of_nonneg (Int.natCast_nonneg _)] at c129b0d))
                      (try (have c129b0h := c129b0; simp only [hl4_1, hl5_1] at c129b0h))
                      clear c129
                      by_cases c130 : (wrap64 (t294 * (wrap64 (Int.tdiv (x4_1.length : Int) t295)))) ≤ (wrap64 ((wrap64 (t286 * (wrap64 (Int.tdiv (x4_1.length : Int) t287)))) + (wrap64 (t290 * (wrap64 (Int.tdiv (x4_1.length : Int) t291))))))
                      · rw [if_pos c130] at H
                        have c130b0 : decide ((wrap64 (t294 * (wrap64 (Int.tdiv (x4_1.length : Int) t295)))) ≤ (wrap64 ((wrap64 (t286 * (wrap64 (Int.tdiv (x4_1.length : Int) t287)))) + (wrap64 (t290 * (wrap64 (Int.tdiv (x4_1.length : Int) t291))))))) = true := decide_eq_true c130
                        (try (have c130b0d := c130b0; simp only [Int.tdiv_eq_ediv_of_nonneg (Int.natCast_nonneg _)] at c130b0d))
                        (try (have c130b0h := c130b0; simp only [hl4_1, hl5_1] at c130b0h))
                        clear c130
                        replace H := Option.bind_eq_some_iff.mp H
                        obtain ⟨t304, A1310, H⟩ := H
                        replace H : (some t304) = some r := H
                        have A131 := Aside0.mk A1310
                        clear A1310
                        obtain rfl := Option.some.inj H
                        try go_wp2
                        have n0_ := Aside0.mk (blk_drew BK289.out)
                        have n1_ := Aside0.mk (blk_drew BK293.out)
                        have n2_ := Aside0.mk (blk_drew BK297.out)
                        have n3_ := Aside0.mk (blk_drew BK301.out)
                        have n4_ := Aside0.mk (below_drew1 HB.out)
                        clear BK289
                        clear BK293
                        clear BK297
                        clear BK301
                        clear HB
                        have BK289 := n0_
                        have BK293 := n1_
                        have BK297 := n2_
                        have BK301 := n3_
                        have HB := n4_
                        clear n0_ n1_ n2_ n3_ n4_
                        refine start_ (n := 24) (S := fun w' => w'.cell? ⟨gb289, 0, none⟩ = some (.int .i64 t286) ∧ w'.cell? ⟨gb289, 1, none⟩ = some (.int .i64 t287) ∧ w'.cell? ⟨gb293, 0, none⟩ = some (.int .i64 t290) ∧ w'.cell? ⟨gb293, 1, none⟩ = some (.int .i64 t291) ∧ w'.cell? ⟨gb297, 0, none⟩ = some (.int .i64 t294) ∧ w'.cell? ⟨gb297, 1, none⟩ = some (.int .i64 t295)) (ds := []) #[false, false, false, false, false, false, false, false, false, false, false, false, false, false, false, false, false, false, false, false, false, false, false, false] (by kernel_rfl) rfl rfl ⟨(blk_cell BK289.out 0).trans rfl, (blk_cell BK289.out 1).trans rfl, (blk_cell BK293.out 0).trans rfl, (blk_cell BK293.out 1).trans rfl, (blk_cell BK297.out 0).trans rfl, (blk_cell BK297.out 1).trans rfl⟩ (fun hHeld => ?_); refine with_tabW shapesearchlaw12_EuclidRoots.tab17 shapesearchlaw12_EuclidRoots.bits17 (fun HT_ HW_ => ?_)
                        generalize wc.drew = w132 at BK289 BK293 BK297 BK301 HB hHeld ⊢
                        refine pure_ (i := 0) (N := some 153) (v := ?_) (a' := ?_) #[true, false, false, false, false, false, false, false, false, false, false, false, false, false, false, false, false, false, false, false, false, false, false, false] rfl rfl (any_of HT_.out (by kernel_rfl)) (fun _ _ _ h => h) (Or.inl ⟨by rfl, ?_⟩) ?_ ?_
                        rotate_left
                        · intro w'
                          go_simp
                          with_reducible rfl
                        rotate_left
                        · simp only [Act.put, List.setIfInBounds_toArray, List.set_cons_zero, List.set_cons_succ, i64_w, i32_w]
                          rfl
                        refine pure_ (i := 2) (N := some 155) (v := ?_) (a' := ?_) #[true, false, true, false, false, false, false, false, false, false, false, false, false, false, false, false, false, false, false, false, false, false, false, false] rfl rfl (any_of HT_.out (by kernel_rfl)) (fun _ _ _ h => h) (Or.inl ⟨by rfl, ?_⟩) ?_ ?_
                        rotate_left
                        · intro w'
                          go_simp
                          with_reducible rfl
                        rotate_left
                        · simp only [Act.put, List.setIfInBounds_toArray, List.set_cons_zero, List.set_cons_succ, i64_w, i32_w]
                          rfl
                        refine pure_ (i := 3) (N := some 156) (v := ?_) (a' := ?_) #[true, false, true, true, false, false, false, false, false, false, false, false, false, false, false, false, false, false, false, false, false, false, false, false] rfl rfl (any_of HT_.out (by kernel_rfl)) (fun _ _ _ h => h) (Or.inl ⟨by rfl, ?_⟩) ?_ ?_
                        rotate_left
                        · intro w'
                          go_simp
                          with_reducible rfl
                        rotate_left
                        · simp only [Act.put, List.setIfInBounds_toArray, List.set_cons_zero, List.set_cons_succ, i64_w, i32_w]
                          rfl
                        refine pure_ (i := 7) (N := some 160) (v := ?_) (a' := ?_) #[true, false, true, true, false, false, false, true, false, false, false, false, false, false, false, false, false, false, false, false, false, false, false, false] rfl rfl (any_of HT_.out (by kernel_rfl)) (fun _ _ _ h => h) (Or.inl ⟨by rfl, ?_⟩) ?_ ?_
                        rotate_left
                        · intro w'
                          go_simp
                          with_reducible rfl
                        rotate_left
                        · simp only [Act.put, List.setIfInBounds_toArray, List.set_cons_zero, List.set_cons_succ, i64_w, i32_w]
                          rfl
                        refine pure_ (i := 9) (N := some 162) (v := ?_) (a' := ?_) #[true, false, true, true, false, false, false, true, false, true, false, false, false, false, false, false, false, false, false, false, false, false, false, false] rfl rfl (any_of HT_.out (by kernel_rfl)) (fun _ _ _ h => h) (Or.inl ⟨by rfl, ?_⟩) ?_ ?_
                        rotate_left
                        · intro w'
                          go_simp
                          with_reducible rfl
                        rotate_left
                        · simp only [Act.put, List.setIfInBounds_toArray, List.set_cons_zero, List.set_cons_succ, i64_w, i32_w]
                          rfl
                        refine pure_ (i := 10) (N := some 163) (v := ?_) (a' := ?_) #[true, false, true, true, false, false, false, true, false, true, true, false, false, false, false, false, false, false, false, false, false, false, false, false] rfl rfl (any_of HT_.out (by kernel_rfl)) (fun _ _ _ h => h) (Or.inl ⟨by rfl, ?_⟩) ?_ ?_
                        rotate_left
                        · intro w'
                          go_simp
                          with_reducible rfl
                        rotate_left
                        · simp only [Act.put, List.setIfInBounds_toArray, List.set_cons_zero, List.set_cons_succ, i64_w, i32_w]
                          rfl
                        refine pure_ (i := 14) (N := some 167) (v := ?_) (a' := ?_) #[true, false, true, true, false, false, false, true, false, true, true, false, false, false, true, false, false, false, false, false, false, false, false, false] rfl rfl (any_of HT_.out (by kernel_rfl)) (fun _ _ _ h => h) (Or.inl ⟨by rfl, ?_⟩) ?_ ?_
                        rotate_left
                        · intro w'
                          go_simp
                          with_reducible rfl
                        rotate_left
                        · simp only [Act.put, List.setIfInBounds_toArray, List.set_cons_zero, List.set_cons_succ, i64_w, i32_w]
                          rfl
                        refine pure_ (i := 16) (N := some 169) (v := ?_) (a' := ?_) #[true, false, true, true, false, false, false, true, false, true, true, false, false, false, true, false, true, false, false, false, false, false, false, false] rfl rfl (any_of HT_.out (by kernel_rfl)) (fun _ _ _ h => h) (Or.inl ⟨by rfl, ?_⟩) ?_ ?_
                        rotate_left
                        · intro w'
                          go_simp
                          with_reducible rfl
                        rotate_left
                        · simp only [Act.put, List.setIfInBounds_toArray, List.set_cons_zero, List.set_cons_succ, i64_w, i32_w]
                          rfl
                        refine pure_ (i := 17) (N := some 170) (v := ?_) (a' := ?_) #[true, false, true, true, false, false, false, true, false, true, true, false, false, false, true, false, true, true, false, false, false, false, false, false] rfl rfl (any_of HT_.out (by kernel_rfl)) (fun _ _ _ h => h) (Or.inl ⟨by rfl, ?_⟩) ?_ ?_
                        rotate_left
                        · intro w'
                          go_simp
                          with_reducible rfl
                        rotate_left
                        · simp only [Act.put, List.setIfInBounds_toArray, List.set_cons_zero, List.set_cons_succ, i64_w, i32_w]
                          rfl
                        refine take_ (i := 1) (N := some 154) (v := ?_) (a' := ?_) #[true, true, true, true, false, false, false, true, false, true, true, false, false, false, true, false, true, true, false, false, false, false, false, false] rfl rfl (take_ofW HT_.out HW_.out (by kernel_rfl)) (fun _ _ _ h => h) (Or.inl ⟨by rfl, ?_⟩) hHeld ?_ ?_
                        rotate_left
                        · rintro w' ⟨s0, s1, s2, s3, s4, s5⟩
                          go_simp
                          with_reducible rfl
                        rotate_left
                        · simp only [Act.put, List.setIfInBounds_toArray, List.set_cons_zero, List.set_cons_succ, i64_w, i32_w]
                          rfl
                        refine take_ (i := 4) (N := some 157) (v := ?_) (a' := ?_) #[true, true, true, true, true, false, false, true, false, true, true, false, false, false, true, false, true, true, false, false, false, false, false, false] rfl rfl (take_ofW HT_.out HW_.out (by kernel_rfl)) (fun _ _ _ h => h) (Or.inl ⟨by rfl, ?_⟩) hHeld ?_ ?_
                        rotate_left
                        · rintro w' ⟨s0, s1, s2, s3, s4, s5⟩
                          go_simp
                          with_reducible rfl
                        rotate_left
                        · simp only [Act.put, List.setIfInBounds_toArray, List.set_cons_zero, List.set_cons_succ, i64_w, i32_w]
                          rfl
                        refine pure_ (i := 5) (N := some 158) (v := ?_) (a' := ?_) #[true, true, true, true, true, true, false, true, false, true, true, false, false, false, true, false, true, true, false, false, false, false, false, false] rfl rfl (any_of HT_.out (by kernel_rfl)) (fun _ _ _ h => h) (Or.inl ⟨by rfl, ?_⟩) ?_ ?_
                        rotate_left
                        · intro w'
                          go_simp
                          with_reducible rfl
                        rotate_left
                        · simp only [Act.put, List.setIfInBounds_toArray, List.set_cons_zero, List.set_cons_succ, i64_w, i32_w]
                          rfl
                        refine pure_ (i := 6) (N := some 159) (v := ?_) (a' := ?_) #[true, true, true, true, true, true, true, true, false, true, true, false, false, false, true, false, true, true, false, false, false, false, false, false] rfl rfl (any_of HT_.out (by kernel_rfl)) (fun _ _ _ h => h) (Or.inl ⟨by rfl, ?_⟩) ?_ ?_
                        rotate_left
                        · intro w'
                          go_simp
                          with_reducible rfl
                        rotate_left
                        · simp only [Act.put, List.setIfInBounds_toArray, List.set_cons_zero, List.set_cons_succ, i64_w, i32_w]
                          rfl
                        refine pure_ (i := 21) (N := some 19) (v := ?_) (a' := ?_) #[true, true, true, true, true, true, true, true, false, true, true, false, false, false, true, false, true, true, false, false, false, true, false, false] rfl rfl (any_of HT_.out (by kernel_rfl)) (fun _ _ _ h => h) (Or.inl ⟨by rfl, ?_⟩) ?_ ?_
                        rotate_left
                        · intro w'
                          go_simp
                          with_reducible rfl
                        rotate_left
                        · simp only [Act.put, List.setIfInBounds_toArray, List.set_cons_zero, List.set_cons_succ, i64_w, i32_w]
                          rfl
                        refine take_ (i := 8) (N := some 161) (v := ?_) (a' := ?_) #[true, true, true, true, true, true, true, true, true, true, true, false, false, false, true, false, true, true, false, false, false, true, false, false] rfl rfl (take_ofW HT_.out HW_.out (by kernel_rfl)) (fun _ _ _ h => h) (Or.inl ⟨by rfl, ?_⟩) hHeld ?_ ?_
                        rotate_left
                        · rintro w' ⟨s0, s1, s2, s3, s4, s5⟩
                          go_simp
                          with_reducible rfl
                        rotate_left
                        · simp only [Act.put, List.setIfInBounds_toArray, List.set_cons_zero, List.set_cons_succ, i64_w, i32_w]
                          rfl
                        refine take_ (i := 11) (N := some 164) (v := ?_) (a' := ?_) #[true, true, true, true, true, true, true, true, true, true, true, true, false, false, true, false, true, true, false, false, false, true, false, false] rfl rfl (take_ofW HT_.out HW_.out (by kernel_rfl)) (fun _ _ _ h => h) (Or.inl ⟨by rfl, ?_⟩) hHeld ?_ ?_
                        rotate_left
                        · rintro w' ⟨s0, s1, s2, s3, s4, s5⟩
                          go_simp
                          with_reducible rfl
                        rotate_left
                        · simp only [Act.put, List.setIfInBounds_toArray, List.set_cons_zero, List.set_cons_succ, i64_w, i32_w]
                          rfl
                        refine pure_ (i := 12) (N := some 165) (v := ?_) (a' := ?_) #[true, true, true, true, true, true, true, true, true, true, true, true, true, false, true, false, true, true, false, false, false, true, false, false] rfl rfl (any_of HT_.out (by kernel_rfl)) (fun _ _ _ h => h) (Or.inl ⟨by rfl, ?_⟩) ?_ ?_
                        rotate_left
                        · intro w'
                          go_simp
                          with_reducible rfl
                        rotate_left
                        · simp only [Act.put, List.setIfInBounds_toArray, List.set_cons_zero, List.set_cons_succ, i64_w, i32_w]
                          rfl
                        refine pure_ (i := 13) (N := some 166) (v := ?_) (a' := ?_) #[true, true, true, true, true, true, true, true, true, true, true, true, true, true, true, false, true, true, false, false, false, true, false, false] rfl rfl (any_of HT_.out (by kernel_rfl)) (fun _ _ _ h => h) (Or.inl ⟨by rfl, ?_⟩) ?_ ?_
                        rotate_left
                        · intro w'
                          go_simp
                          with_reducible rfl
                        rotate_left
                        · simp only [Act.put, List.setIfInBounds_toArray, List.set_cons_zero, List.set_cons_succ, i64_w, i32_w]
                          rfl
                        refine pure_ (i := 22) (N := some 20) (v := ?_) (a' := ?_) #[true, true, true, true, true, true, true, true, true, true, true, true, true, true, true, false, true, true, false, false, false, true, true, false] rfl rfl (any_of HT_.out (by kernel_rfl)) (fun _ _ _ h => h) (Or.inl ⟨by rfl, ?_⟩) ?_ ?_
                        rotate_left
                        · intro w'
                          go_simp
                          with_reducible rfl
                        rotate_left
                        · simp only [Act.put, List.setIfInBounds_toArray, List.set_cons_zero, List.set_cons_succ, i64_w, i32_w]
                          rfl
                        refine take_ (i := 15) (N := some 168) (v := ?_) (a' := ?_) #[true, true, true, true, true, true, true, true, true, true, true, true, true, true, true, true, true, true, false, false, false, true, true, false] rfl rfl (take_ofW HT_.out HW_.out (by kernel_rfl)) (fun _ _ _ h => h) (Or.inl ⟨by rfl, ?_⟩) hHeld ?_ ?_
                        rotate_left
                        · rintro w' ⟨s0, s1, s2, s3, s4, s5⟩
                          go_simp
                          with_reducible rfl
                        rotate_left
                        · simp only [Act.put, List.setIfInBounds_toArray, List.set_cons_zero, List.set_cons_succ, i64_w, i32_w]
                          rfl
                        refine take_ (i := 18) (N := some 171) (v := ?_) (a' := ?_) #[true, true, true, true, true, true, true, true, true, true, true, true, true, true, true, true, true, true, true, false, false, true, true, false] rfl rfl (take_ofW HT_.out HW_.out (by kernel_rfl)) (fun _ _ _ h => h) (Or.inl ⟨by rfl, ?_⟩) hHeld ?_ ?_
                        rotate_left
                        · rintro w' ⟨s0, s1, s2, s3, s4, s5⟩
                          go_simp
                          with_reducible rfl
                        rotate_left
                        · simp only [Act.put, List.setIfInBounds_toArray, List.set_cons_zero, List.set_cons_succ, i64_w, i32_w]
                          rfl
                        refine pure_ (i := 19) (N := some 172) (v := ?_) (a' := ?_) #[true, true, true, true, true, true, true, true, true, true, true, true, true, true, true, true, true, true, true, true, false, true, true, false] rfl rfl (any_of HT_.out (by kernel_rfl)) (fun _ _ _ h => h) (Or.inl ⟨by rfl, ?_⟩) ?_ ?_
                        rotate_left
                        · intro w'
                          go_simp
                          with_reducible rfl
                        rotate_left
                        · simp only [Act.put, List.setIfInBounds_toArray, List.set_cons_zero, List.set_cons_succ, i64_w, i32_w]
                          rfl
                        refine pure_ (i := 20) (N := some 173) (v := ?_) (a' := ?_) #[true, true, true, true, true, true, true, true, true, true, true, true, true, true, true, true, true, true, true, true, true, true, true, false] rfl rfl (any_of HT_.out (by kernel_rfl)) (fun _ _ _ h => h) (Or.inl ⟨by rfl, ?_⟩) ?_ ?_
                        rotate_left
                        · intro w'
                          go_simp
                          with_reducible rfl
                        rotate_left
                        · simp only [Act.put, List.setIfInBounds_toArray, List.set_cons_zero, List.set_cons_succ, i64_w, i32_w]
                          rfl
                        refine pure_ (i := 23) (N := some 21) (v := ?_) (a' := ?_) #[true, true, true, true, true, true, true, true, true, true, true, true, true, true, true, true, true, true, true, true, true, true, true, true] rfl rfl (any_of HT_.out (by kernel_rfl)) (fun _ _ _ h => h) (Or.inl ⟨by rfl, ?_⟩) ?_ ?_
                        rotate_left
                        · intro w'
                          go_simp
                          with_reducible rfl
                        rotate_left
                        · simp only [Act.put, List.setIfInBounds_toArray, List.set_cons_zero, List.set_cons_succ, i64_w, i32_w]
                          rfl
                        refine done_ (done_of HT_.out (by kernel_rfl)) ?_
                        try go_wp2_with (first | (go_at_call 15; (with_reducible refine (shapesearchlaw12_awake.calls kj27  t304 _ A131.out).mono ?_); rintro e w133 ⟨rfl, hb⟩; have n0_ := Aside0.mk (blk_below (g := gb289) (o := .cells #[.int .i64 t286, .int .i64 t287] 37 (0, 0)) (by (with_reducible repeat (first | refine blk_drewN ?_ _ | refine blk_drew ?_ | refine blk_alloc ?_ _)); exact BK289.out) hb); have n1_ := Aside0.mk (blk_below (g := gb293) (o := .cells #[.int .i64 t290, .int .i64 t291] 37 (0, 0)) (by (with_reducible repeat (first | refine blk_drewN ?_ _ | refine blk_drew ?_ | refine blk_alloc ?_ _)); exact BK293.out) hb); have n2_ := Aside0.mk (blk_below (g := gb297) (o := .cells #[.int .i64 t294, .int .i64 t295] 37 (0, 0)) (by (with_reducible repeat (first | refine blk_drewN ?_ _ | refine blk_drew ?_ | refine blk_alloc ?_ _)); exact BK297.out) hb); have n3_ := Aside0.mk (blk_below (g := gb301) (o := .cells #[.int .i64 t298, .int .i64 t299] 37 (0, 0)) (by (with_reducible repeat (first | refine blk_drewN ?_ _ | refine blk_drew ?_ | refine blk_alloc ?_ _)); exact BK301.out) hb); have n4_ := Aside0.mk (below_step (by repeat (first | (with_reducible first | exact HB.out | apply below_alloc | apply pw_below_drewN | apply below_drew1 | refine below_set ?_ GE289.out | refine below_set ?_ GE293.out | refine below_set ?_ GE297.out | refine below_set ?_ GE301.out) | exact HB.out)) hb); clear BK289; clear BK293; clear BK297; clear BK301; clear HB; have BK289 := n0_; have BK293 := n1_; have BK297 := n2_; have BK301 := n3_; have HB := n4_; clear n0_ n1_ n2_ n3_ n4_; (try clear hb); (try clear hb2); (try clear hk); (try clear hi)))
                        go_ret
                        exact ⟨by first | rfl | (simp [errW_none, errW_some] <;> rfl) | (simp [*, errW_none, errW_some] <;> rfl), by repeat (first | (with_reducible first | exact HB.out | apply below_alloc | apply pw_below_drewN | apply below_drew1 | refine below_set ?_ GE289.out | refine below_set ?_ GE293.out | refine below_set ?_ GE297.out | refine below_set ?_ GE301.out) | exact HB.out)⟩
                      · rw [if_neg c130] at H
                        have c130b0 : decide ((wrap64 (t294 * (wrap64 (Int.tdiv (x4_1.length : Int) t295)))) ≤ (wrap64 ((wrap64 (t286 * (wrap64 (Int.tdiv (x4_1.length : Int) t287)))) + (wrap64 (t290 * (wrap64 (Int.tdiv (x4_1.length : Int) t291))))))) = false := decide_eq_false c130
                        (try (have c130b0d := c130b0; simp only [Int.tdiv_eq_ediv_of_nonneg (Int.natCast_nonneg _)] at c130b0d))
                        (try (have c130b0h := c130b0; simp only [hl4_1, hl5_1] at c130b0h))
                        clear c130
                        by_cases c134 : (wrap64 ((wrap64 ((wrap64 ((wrap64 (t294 * (wrap64 (Int.tdiv (x4_1.length : Int) t295)))) - (wrap64 (t286 * (wrap64 (Int.tdiv (x4_1.length : Int) t287)))))) - (wrap64 (t290 * (wrap64 (Int.tdiv (x4_1.length : Int) t291)))))) * (wrap64 ((wrap64 ((wrap64 (t294 * (wrap64 (Int.tdiv (x4_1.length : Int) t295)))) - (wrap64 (t286 * (wrap64 (Int.tdiv (x4_1.length : Int) t287)))))) - (wrap64 (t290 * (wrap64 (Int.tdiv (x4_1.length : Int) t291)))))))) ≤ (wrap64 ((wrap64 (4 * (wrap64 (t286 * (wrap64 (Int.tdiv (x4_1.length : Int) t287)))))) * (wrap64 (t290 * (wrap64 (Int.tdiv (x4_1.length : Int) t291))))))
                        · rw [if_pos c134] at H
                          have c134b0 : decide ((wrap64 ((wrap64 ((wrap64 ((wrap64 (t294 * (wrap64 (Int.tdiv (x4_1.length : Int) t295)))) - (wrap64 (t286 * (wrap64 (Int.tdiv (x4_1.length : Int) t287)))))) - (wrap64 (t290 * (wrap64 (Int.tdiv (x4_1.length : Int) t291)))))) * (wrap64 ((wrap64 ((wrap64 (t294 * (wrap64 (Int.tdiv (x4_1.length : Int) t295)))) - (wrap64 (t286 * (wrap64 (Int.tdiv (x4_1.length : Int) t287)))))) - (wrap64 (t290 * (wrap64 (Int.tdiv (x4_1.length : Int) t291)))))))) ≤ (wrap64 ((wrap64 (4 * (wrap64 (t286 * (wrap64 (Int.tdiv (x4_1.length : Int) t287)))))) * (wrap64 (t290 * (wrap64 (Int.tdiv (x4_1.length : Int) t291))))))) = true := decide_eq_true c134
                          (try (have c134b0d := c134b0; simp only [Int.tdiv_eq_ediv_of_nonneg (Int.natCast_nonneg _)] at c134b0d))
                          (try (have c134b0h := c134b0; simp only [hl4_1, hl5_1] at c134b0h))
                          clear c134
                          replace H := Option.bind_eq_some_iff.mp H
                          obtain ⟨t305, A1350, H⟩ := H
                          replace H : (some t305) = some r := H
                          have A135 := Aside0.mk A1350
                          clear A1350
                          obtain rfl := Option.some.inj H
                          try go_wp2
                          have n0_ := Aside0.mk (blk_drew BK289.out)
                          have n1_ := Aside0.mk (blk_drew BK293.out)
                          have n2_ := Aside0.mk (blk_drew BK297.out)
                          have n3_ := Aside0.mk (blk_drew BK301.out)
                          have n4_ := Aside0.mk (below_drew1 HB.out)
                          clear BK289
                          clear BK293
                          clear BK297
                          clear BK301
                          clear HB
                          have BK289 := n0_
                          have BK293 := n1_
                          have BK297 := n2_
                          have BK301 := n3_
                          have HB := n4_
                          clear n0_ n1_ n2_ n3_ n4_
                          refine start_ (n := 24) (S := fun w' => w'.cell? ⟨gb289, 0, none⟩ = some (.int .i64 t286) ∧ w'.cell? ⟨gb289, 1, none⟩ = some (.int .i64 t287) ∧ w'.cell? ⟨gb293, 0, none⟩ = some (.int .i64 t290) ∧ w'.cell? ⟨gb293, 1, none⟩ = some (.int .i64 t291) ∧ w'.cell? ⟨gb297, 0, none⟩ = some (.int .i64 t294) ∧ w'.cell? ⟨gb297, 1, none⟩ = some (.int .i64 t295)) (ds := []) #[false, false, false, false, false, false, false, false, false, false, false, false, false, false, false, false, false, false, false, false, false, false, false, false] (by kernel_rfl) rfl rfl ⟨(blk_cell BK289.out 0).trans rfl, (blk_cell BK289.out 1).trans rfl, (blk_cell BK293.out 0).trans rfl, (blk_cell BK293.out 1).trans rfl, (blk_cell BK297.out 0).trans rfl, (blk_cell BK297.out 1).trans rfl⟩ (fun hHeld => ?_); refine with_tabW shapesearchlaw12_EuclidRoots.tab17 shapesearchlaw12_EuclidRoots.bits17 (fun HT_ HW_ => ?_)
                          generalize wc.drew = w136 at BK289 BK293 BK297 BK301 HB hHeld ⊢
                          refine pure_ (i := 0) (N := some 153) (v := ?_) (a' := ?_) #[true, false, false, false, false, false, false, false, false, false, false, false, false, false, false, false, false, false, false, false, false, false, false, false] rfl rfl (any_of HT_.out (by kernel_rfl)) (fun _ _ _ h => h) (Or.inl ⟨by rfl, ?_⟩) ?_ ?_
                          rotate_left
                          · intro w'
                            go_simp
                            with_reducible rfl
                          rotate_left
                          · simp only [Act.put, List.setIfInBounds_toArray, List.set_cons_zero, List.set_cons_succ, i64_w, i32_w]
                            rfl
                          refine pure_ (i := 2) (N := some 155) (v := ?_) (a' := ?_) #[true, false, true, false, false, false, false, false, false, false, false, false, false, false, false, false, false, false, false, false, false, false, false, false] rfl rfl (any_of HT_.out (by kernel_rfl)) (fun _ _ _ h => h) (Or.inl ⟨by rfl, ?_⟩) ?_ ?_
                          rotate_left
                          · intro w'
                            go_simp
                            with_reducible rfl
                          rotate_left
                          · simp only [Act.put, List.setIfInBounds_toArray, List.set_cons_zero, List.set_cons_succ, i64_w, i32_w]
                            rfl
                          refine pure_ (i := 3) (N := some 156) (v := ?_) (a' := ?_) #[true, false, true, true, false, false, false, false, false, false, false, false, false, false, false, false, false, false, false, false, false, false, false, false] rfl rfl (any_of HT_.out (by kernel_rfl)) (fun _ _ _ h => h) (Or.inl ⟨by rfl, ?_⟩) ?_ ?_
                          rotate_left
                          · intro w'
                            go_simp
                            with_reducible rfl
                          rotate_left
                          · simp only [Act.put, List.setIfInBounds_toArray, List.set_cons_zero, List.set_cons_succ, i64_w, i32_w]
                            rfl
                          refine pure_ (i := 7) (N := some 160) (v := ?_) (a' := ?_) #[true, false, true, true, false, false, false, true, false, false, false, false, false, false, false, false, false, false, false, false, false, false, false, false] rfl rfl (any_of HT_.out (by kernel_rfl)) (fun _ _ _ h => h) (Or.inl ⟨by rfl, ?_⟩) ?_ ?_
                          rotate_left
                          · intro w'
                            go_simp
                            with_reducible rfl
                          rotate_left
                          · simp only [Act.put, List.setIfInBounds_toArray, List.set_cons_zero, List.set_cons_succ, i64_w, i32_w]
                            rfl
                          refine pure_ (i := 9) (N := some 162) (v := ?_) (a' := ?_) #[true, false, true, true, false, false, false, true, false, true, false, false, false, false, false, false, false, false, false, false, false, false, false, false] rfl rfl (any_of HT_.out (by kernel_rfl)) (fun _ _ _ h => h) (Or.inl ⟨by rfl, ?_⟩) ?_ ?_
                          rotate_left
                          · intro w'
                            go_simp
                            with_reducible rfl
                          rotate_left
                          · simp only [Act.put, List.setIfInBounds_toArray, List.set_cons_zero, List.set_cons_succ, i64_w, i32_w]
                            rfl
                          refine pure_ (i := 10) (N := some 163) (v := ?_) (a' := ?_) #[true, false, true, true, false, false, false, true, false, true, true, false, false, false, false, false, false, false, false, false, false, false, false, false] rfl rfl (any_of HT_.out (by kernel_rfl)) (fun _ _ _ h => h) (Or.inl ⟨by rfl, ?_⟩) ?_ ?_
                          rotate_left
                          · intro w'
                            go_simp
                            with_reducible rfl
                          rotate_left
                          · simp only [Act.put, List.setIfInBounds_toArray, List.set_cons_zero, List.set_cons_succ, i64_w, i32_w]
                            rfl
                          refine pure_ (i := 14) (N := some 167) (v := ?_) (a' := ?_) #[true, false, true, true, false, false, false, true, false, true, true, false, false, false, true, false, false, false, false, false, false, false, false, false] rfl rfl (any_of HT_.out (by kernel_rfl)) (fun _ _ _ h => h) (Or.inl ⟨by rfl, ?_⟩) ?_ ?_
                          rotate_left
                          · intro w'
                            go_simp
                            with_reducible rfl
                          rotate_left
                          · simp only [Act.put, List.setIfInBounds_toArray, List.set_cons_zero, List.set_cons_succ, i64_w, i32_w]
                            rfl
                          refine pure_ (i := 16) (N := some 169) (v := ?_) (a' := ?_) #[true, false, true, true, false, false, false, true, false, true, true, false, false, false, true, false, true, false, false, false, false, false, false, false] rfl rfl (any_of HT_.out (by kernel_rfl)) (fun _ _ _ h => h) (Or.inl ⟨by rfl, ?_⟩) ?_ ?_
                          rotate_left
                          · intro w'
                            go_simp
                            with_reducible rfl
                          rotate_left
                          · simp only [Act.put, List.setIfInBounds_toArray, List.set_cons_zero, List.set_cons_succ, i64_w, i32_w]
                            rfl
                          refine pure_ (i := 17) (N := some 170) (v := ?_) (a' := ?_) #[true, false, true, true, false, false, false, true, false, true, true, false, false, false, true, false, true, true, false, false, false, false, false, false] rfl rfl (any_of HT_.out (by kernel_rfl)) (fun _ _ _ h => h) (Or.inl ⟨by rfl, ?_⟩) ?_ ?_
                          rotate_left
                          · intro w'
                            go_simp
                            with_reducible rfl
                          rotate_left
                          · simp only [Act.put, List.setIfInBounds_toArray, List.set_cons_zero, List.set_cons_succ, i64_w, i32_w]
                            rfl
                          refine take_ (i := 1) (N := some 154) (v := ?_) (a' := ?_) #[true, true, true, true, false, false, false, true, false, true, true, false, false, false, true, false, true, true, false, false, false, false, false, false] rfl rfl (take_ofW HT_.out HW_.out (by kernel_rfl)) (fun _ _ _ h => h) (Or.inl ⟨by rfl, ?_⟩) hHeld ?_ ?_
                          rotate_left
                          · rintro w' ⟨s0, s1, s2, s3, s4, s5⟩
                            go_simp
                            with_reducible rfl
                          rotate_left
                          · simp only [Act.put, List.setIfInBounds_toArray, List.set_cons_zero, List.set_cons_succ, i64_w, i32_w]
                            rfl
                          refine take_ (i := 4) (N := some 157) (v := ?_) (a' := ?_) #[true, true, true, true, true, false, false, true, false, true, true, false, false, false, true, false, true, true, false, false, false, false, false, false] rfl rfl (take_ofW HT_.out HW_.out (by kernel_rfl)) (fun _ _ _ h => h) (Or.inl ⟨by rfl, ?_⟩) hHeld ?_ ?_
                          rotate_left
                          · rintro w' ⟨s0, s1, s2, s3, s4, s5⟩
                            go_simp
                            with_reducible rfl
                          rotate_left
                          · simp only [Act.put, List.setIfInBounds_toArray, List.set_cons_zero, List.set_cons_succ, i64_w, i32_w]
                            rfl
                          refine pure_ (i := 5) (N := some 158) (v := ?_) (a' := ?_) #[true, true, true, true, true, true, false, true, false, true, true, false, false, false, true, false, true, true, false, false, false, false, false, false] rfl rfl (any_of HT_.out (by kernel_rfl)) (fun _ _ _ h => h) (Or.inl ⟨by rfl, ?_⟩) ?_ ?_
                          rotate_left
                          · intro w'
                            go_simp
                            with_reducible rfl
                          rotate_left
                          · simp only [Act.put, List.setIfInBounds_toArray, List.set_cons_zero, List.set_cons_succ, i64_w, i32_w]
                            rfl
                          refine pure_ (i := 6) (N := some 159) (v := ?_) (a' := ?_) #[true, true, true, true, true, true, true, true, false, true, true, false, false, false, true, false, true, true, false, false, false, false, false, false] rfl rfl (any_of HT_.out (by kernel_rfl)) (fun _ _ _ h => h) (Or.inl ⟨by rfl, ?_⟩) ?_ ?_
                          rotate_left
                          · intro w'
                            go_simp
                            with_reducible rfl
                          rotate_left
                          · simp only [Act.put, List.setIfInBounds_toArray, List.set_cons_zero, List.set_cons_succ, i64_w, i32_w]
                            rfl
                          refine pure_ (i := 21) (N := some 19) (v := ?_) (a' := ?_) #[true, true, true, true, true, true, true, true, false, true, true, false, false, false, true, false, true, true, false, false, false, true, false, false] rfl rfl (any_of HT_.out (by kernel_rfl)) (fun _ _ _ h => h) (Or.inl ⟨by rfl, ?_⟩) ?_ ?_
                          rotate_left
                          · intro w'
                            go_simp
                            with_reducible rfl
                          rotate_left
                          · simp only [Act.put, List.setIfInBounds_toArray, List.set_cons_zero, List.set_cons_succ, i64_w, i32_w]
                            rfl
                          refine take_ (i := 8) (N := some 161) (v := ?_) (a' := ?_) #[true, true, true, true, true, true, true, true, true, true, true, false, false, false, true, false, true, true, false, false, false, true, false, false] rfl rfl (take_ofW HT_.out HW_.out (by kernel_rfl)) (fun _ _ _ h => h) (Or.inl ⟨by rfl, ?_⟩) hHeld ?_ ?_
                          rotate_left
                          · rintro w' ⟨s0, s1, s2, s3, s4, s5⟩
                            go_simp
                            with_reducible rfl
                          rotate_left
                          · simp only [Act.put, List.setIfInBounds_toArray, List.set_cons_zero, List.set_cons_succ, i64_w, i32_w]
                            rfl
                          refine take_ (i := 11) (N := some 164) (v := ?_) (a' := ?_) #[true, true, true, true, true, true, true, true, true, true, true, true, false, false, true, false, true, true, false, false, false, true, false, false] rfl rfl (take_ofW HT_.out HW_.out (by kernel_rfl)) (fun _ _ _ h => h) (Or.inl ⟨by rfl, ?_⟩) hHeld ?_ ?_
                          rotate_left
                          · rintro w' ⟨s0, s1, s2, s3, s4, s5⟩
                            go_simp
                            with_reducible rfl
                          rotate_left
                          · simp only [Act.put, List.setIfInBounds_toArray, List.set_cons_zero, List.set_cons_succ, i64_w, i32_w]
                            rfl
                          refine pure_ (i := 12) (N := some 165) (v := ?_) (a' := ?_) #[true, true, true, true, true, true, true, true, true, true, true, true, true, false, true, false, true, true, false, false, false, true, false, false] rfl rfl (any_of HT_.out (by kernel_rfl)) (fun _ _ _ h => h) (Or.inl ⟨by rfl, ?_⟩) ?_ ?_
                          rotate_left
                          · intro w'
                            go_simp
                            with_reducible rfl
                          rotate_left
                          · simp only [Act.put, List.setIfInBounds_toArray, List.set_cons_zero, List.set_cons_succ, i64_w, i32_w]
                            rfl
                          refine pure_ (i := 13) (N := some 166) (v := ?_) (a' := ?_) #[true, true, true, true, true, true, true, true, true, true, true, true, true, true, true, false, true, true, false, false, false, true, false, false] rfl rfl (any_of HT_.out (by kernel_rfl)) (fun _ _ _ h => h) (Or.inl ⟨by rfl, ?_⟩) ?_ ?_
                          rotate_left
                          · intro w'
                            go_simp
                            with_reducible rfl
                          rotate_left
                          · simp only [Act.put, List.setIfInBounds_toArray, List.set_cons_zero, List.set_cons_succ, i64_w, i32_w]
                            rfl
                          refine pure_ (i := 22) (N := some 20) (v := ?_) (a' := ?_) #[true, true, true, true, true, true, true, true, true, true, true, true, true, true, true, false, true, true, false, false, false, true, true, false] rfl rfl (any_of HT_.out (by kernel_rfl)) (fun _ _ _ h => h) (Or.inl ⟨by rfl, ?_⟩) ?_ ?_
                          rotate_left
                          · intro w'
                            go_simp
                            with_reducible rfl
                          rotate_left
                          · simp only [Act.put, List.setIfInBounds_toArray, List.set_cons_zero, List.set_cons_succ, i64_w, i32_w]
                            rfl
                          refine take_ (i := 15) (N := some 168) (v := ?_) (a' := ?_) #[true, true, true, true, true, true, true, true, true, true, true, true, true, true, true, true, true, true, false, false, false, true, true, false] rfl rfl (take_ofW HT_.out HW_.out (by kernel_rfl)) (fun _ _ _ h => h) (Or.inl ⟨by rfl, ?_⟩) hHeld ?_ ?_
                          rotate_left
                          · rintro w' ⟨s0, s1, s2, s3, s4, s5⟩
                            go_simp
                            with_reducible rfl
                          rotate_left
                          · simp only [Act.put, List.setIfInBounds_toArray, List.set_cons_zero, List.set_cons_succ, i64_w, i32_w]
                            rfl
                          refine take_ (i := 18) (N := some 171) (v := ?_) (a' := ?_) #[true, true, true, true, true, true, true, true, true, true, true, true, true, true, true, true, true, true, true, false, false, true, true, false] rfl rfl (take_ofW HT_.out HW_.out (by kernel_rfl)) (fun _ _ _ h => h) (Or.inl ⟨by rfl, ?_⟩) hHeld ?_ ?_
                          rotate_left
                          · rintro w' ⟨s0, s1, s2, s3, s4, s5⟩
                            go_simp
                            with_reducible rfl
                          rotate_left
                          · simp only [Act.put, List.setIfInBounds_toArray, List.set_cons_zero, List.set_cons_succ, i64_w, i32_w]
                            rfl
                          refine pure_ (i := 19) (N := some 172) (v := ?_) (a' := ?_) #[true, true, true, true, true, true, true, true, true, true, true, true, true, true, true, true, true, true, true, true, false, true, true, false] rfl rfl (any_of HT_.out (by kernel_rfl)) (fun _ _ _ h => h) (Or.inl ⟨by rfl, ?_⟩) ?_ ?_
                          rotate_left
                          · intro w'
                            go_simp
                            with_reducible rfl
                          rotate_left
                          · simp only [Act.put, List.setIfInBounds_toArray, List.set_cons_zero, List.set_cons_succ, i64_w, i32_w]
                            rfl
                          refine pure_ (i := 20) (N := some 173) (v := ?_) (a' := ?_) #[true, true, true, true, true, true, true, true, true, true, true, true, true, true, true, true, true, true, true, true, true, true, true, false] rfl rfl (any_of HT_.out (by kernel_rfl)) (fun _ _ _ h => h) (Or.inl ⟨by rfl, ?_⟩) ?_ ?_
                          rotate_left
                          · intro w'
                            go_simp
                            with_reducible rfl
                          rotate_left
                          · simp only [Act.put, List.setIfInBounds_toArray, List.set_cons_zero, List.set_cons_succ, i64_w, i32_w]
                            rfl
                          refine pure_ (i := 23) (N := some 21) (v := ?_) (a' := ?_) #[true, true, true, true, true, true, true, true, true, true, true, true, true, true, true, true, true, true, true, true, true, true, true, true] rfl rfl (any_of HT_.out (by kernel_rfl)) (fun _ _ _ h => h) (Or.inl ⟨by rfl, ?_⟩) ?_ ?_
                          rotate_left
                          · intro w'
                            go_simp
                            with_reducible rfl
                          rotate_left
                          · simp only [Act.put, List.setIfInBounds_toArray, List.set_cons_zero, List.set_cons_succ, i64_w, i32_w]
                            rfl
                          refine done_ (done_of HT_.out (by kernel_rfl)) ?_
                          try go_wp2_with (first | (go_at_call 15; (with_reducible refine (shapesearchlaw12_awake.calls kj27  t305 _ A135.out).mono ?_); rintro e w137 ⟨rfl, hb⟩; have n0_ := Aside0.mk (blk_below (g := gb289) (o := .cells #[.int .i64 t286, .int .i64 t287] 37 (0, 0)) (by (with_reducible repeat (first | refine blk_drewN ?_ _ | refine blk_drew ?_ | refine blk_alloc ?_ _)); exact BK289.out) hb); have n1_ := Aside0.mk (blk_below (g := gb293) (o := .cells #[.int .i64 t290, .int .i64 t291] 37 (0, 0)) (by (with_reducible repeat (first | refine blk_drewN ?_ _ | refine blk_drew ?_ | refine blk_alloc ?_ _)); exact BK293.out) hb); have n2_ := Aside0.mk (blk_below (g := gb297) (o := .cells #[.int .i64 t294, .int .i64 t295] 37 (0, 0)) (by (with_reducible repeat (first | refine blk_drewN ?_ _ | refine blk_drew ?_ | refine blk_alloc ?_ _)); exact BK297.out) hb); have n3_ := Aside0.mk (blk_below (g := gb301) (o := .cells #[.int .i64 t298, .int .i64 t299] 37 (0, 0)) (by (with_reducible repeat (first | refine blk_drewN ?_ _ | refine blk_drew ?_ | refine blk_alloc ?_ _)); exact BK301.out) hb); have n4_ := Aside0.mk (below_step (by repeat (first | (with_reducible first | exact HB.out | apply below_alloc | apply pw_below_drewN | apply below_drew1 | refine below_set ?_ GE289.out | refine below_set ?_ GE293.out | refine below_set ?_ GE297.out | refine below_set ?_ GE301.out) | exact HB.out)) hb); clear BK289; clear BK293; clear BK297; clear BK301; clear HB; have BK289 := n0_; have BK293 := n1_; have BK297 := n2_; have BK301 := n3_; have HB := n4_; clear n0_ n1_ n2_ n3_ n4_; (try clear hb); (try clear hb2); (try clear hk); (try clear hi)))
                          go_ret
                          exact ⟨by first | rfl | (simp [errW_none, errW_some] <;> rfl) | (simp [*, errW_none, errW_some] <;> rfl), by repeat (first | (with_reducible first | exact HB.out | apply below_alloc | apply pw_below_drewN | apply below_drew1 | refine below_set ?_ GE289.out | refine below_set ?_ GE293.out | refine below_set ?_ GE297.out | refine below_set ?_ GE301.out) | exact HB.out)⟩
                        · rw [if_neg c134] at H
                          have c134b0 : decide ((wrap64 ((wrap64 ((wrap64 ((wrap64 (t294 * (wrap64 (Int.tdiv (x4_1.length : Int) t295)))) - (wrap64 (t286 * (wrap64 (Int.tdiv (x4_1.length : Int) t287)))))) - (wrap64 (t290 * (wrap64 (Int.tdiv (x4_1.length : Int) t291)))))) * (wrap64 ((wrap64 ((wrap64 (t294 * (wrap64 (Int.tdiv (x4_1.length : Int) t295)))) - (wrap64 (t286 * (wrap64 (Int.tdiv (x4_1.length : Int) t287)))))) - (wrap64 (t290 * (wrap64 (Int.tdiv (x4_1.length : Int) t291)))))))) ≤ (wrap64 ((wrap64 (4 * (wrap64 (t286 * (wrap64 (Int.tdiv (x4_1.length : Int) t287)))))) * (wrap64 (t290 * (wrap64 (Int.tdiv (x4_1.length : Int) t291))))))) = false := decide_eq_false c134
                          (try (have c134b0d := c134b0; simp only [Int.tdiv_eq_ediv_of_nonneg (Int.natCast_nonneg _)] at c134b0d))
                          (try (have c134b0h := c134b0; simp only [hl4_1, hl5_1] at c134b0h))
                          clear c134
                          obtain rfl := Option.some.inj H
                          try go_wp2
                          have n0_ := Aside0.mk (blk_drew BK289.out)
                          have n1_ := Aside0.mk (blk_drew BK293.out)
                          have n2_ := Aside0.mk (blk_drew BK297.out)
                          have n3_ := Aside0.mk (blk_drew BK301.out)
                          have n4_ := Aside0.mk (below_drew1 HB.out)
                          clear BK289
                          clear BK293
                          clear BK297
                          clear BK301
                          clear HB
                          have BK289 := n0_
                          have BK293 := n1_
                          have BK297 := n2_
                          have BK301 := n3_
                          have HB := n4_
                          clear n0_ n1_ n2_ n3_ n4_
                          refine start_ (n := 24) (S := fun w' => w'.cell? ⟨gb289, 0, none⟩ = some (.int .i64 t286) ∧ w'.cell? ⟨gb289, 1, none⟩ = some (.int .i64 t287) ∧ w'.cell? ⟨gb293, 0, none⟩ = some (.int .i64 t290) ∧ w'.cell? ⟨gb293, 1, none⟩ = some (.int .i64 t291) ∧ w'.cell? ⟨gb297, 0, none⟩ = some (.int .i64 t294) ∧ w'.cell? ⟨gb297, 1, none⟩ = some (.int .i64 t295)) (ds := []) #[false, false, false, false, false, false, false, false, false, false, false, false, false, false, false, false, false, false, false, false, false, false, false, false] (by kernel_rfl) rfl rfl ⟨(blk_cell BK289.out 0).trans rfl, (blk_cell BK289.out 1).trans rfl, (blk_cell BK293.out 0).trans rfl, (blk_cell BK293.out 1).trans rfl, (blk_cell BK297.out 0).trans rfl, (blk_cell BK297.out 1).trans rfl⟩ (fun hHeld => ?_); refine with_tabW shapesearchlaw12_EuclidRoots.tab17 shapesearchlaw12_EuclidRoots.bits17 (fun HT_ HW_ => ?_)
                          generalize wc.drew = w138 at BK289 BK293 BK297 BK301 HB hHeld ⊢
                          refine pure_ (i := 0) (N := some 153) (v := ?_) (a' := ?_) #[true, false, false, false, false, false, false, false, false, false, false, false, false, false, false, false, false, false, false, false, false, false, false, false] rfl rfl (any_of HT_.out (by kernel_rfl)) (fun _ _ _ h => h) (Or.inl ⟨by rfl, ?_⟩) ?_ ?_
                          rotate_left
                          · intro w'
                            go_simp
                            with_reducible rfl
                          rotate_left
                          · simp only [Act.put, List.setIfInBounds_toArray, List.set_cons_zero, List.set_cons_succ, i64_w, i32_w]
                            rfl
                          refine pure_ (i := 2) (N := some 155) (v := ?_) (a' := ?_) #[true, false, true, false, false, false, false, false, false, false, false, false, false, false, false, false, false, false, false, false, false, false, false, false] rfl rfl (any_of HT_.out (by kernel_rfl)) (fun _ _ _ h => h) (Or.inl ⟨by rfl, ?_⟩) ?_ ?_
                          rotate_left
                          · intro w'
                            go_simp
                            with_reducible rfl
                          rotate_left
                          · simp only [Act.put, List.setIfInBounds_toArray, List.set_cons_zero, List.set_cons_succ, i64_w, i32_w]
                            rfl
                          refine pure_ (i := 3) (N := some 156) (v := ?_) (a' := ?_) #[true, false, true, true, false, false, false, false, false, false, false, false, false, false, false, false, false, false, false, false, false, false, false, false] rfl rfl (any_of HT_.out (by kernel_rfl)) (fun _ _ _ h => h) (Or.inl ⟨by rfl, ?_⟩) ?_ ?_
                          rotate_left
                          · intro w'
                            go_simp
                            with_reducible rfl
                          rotate_left
                          · simp only [Act.put, List.setIfInBounds_toArray, List.set_cons_zero, List.set_cons_succ, i64_w, i32_w]
                            rfl
                          refine pure_ (i := 7) (N := some 160) (v := ?_) (a' := ?_) #[true, false, true, true, false, false, false, true, false, false, false, false, false, false, false, false, false, false, false, false, false, false, false, false] rfl rfl (any_of HT_.out (by kernel_rfl)) (fun _ _ _ h => h) (Or.inl ⟨by rfl, ?_⟩) ?_ ?_
                          rotate_left
                          · intro w'
                            go_simp
                            with_reducible rfl
                          rotate_left
                          · simp only [Act.put, List.setIfInBounds_toArray, List.set_cons_zero, List.set_cons_succ, i64_w, i32_w]
                            rfl
                          refine pure_ (i := 9) (N := some 162) (v := ?_) (a' := ?_) #[true, false, true, true, false, false, false, true, false, true, false, false, false, false, false, false, false, false, false, false, false, false, false, false] rfl rfl (any_of HT_.out (by kernel_rfl)) (fun _ _ _ h => h) (Or.inl ⟨by rfl, ?_⟩) ?_ ?_
                          rotate_left
                          · intro w'
                            go_simp
                            with_reducible rfl
                          rotate_left
                          · simp only [Act.put, List.setIfInBounds_toArray, List.set_cons_zero, List.set_cons_succ, i64_w, i32_w]
                            rfl
                          refine pure_ (i := 10) (N := some 163) (v := ?_) (a' := ?_) #[true, false, true, true, false, false, false, true, false, true, true, false, false, false, false, false, false, false, false, false, false, false, false, false] rfl rfl (any_of HT_.out (by kernel_rfl)) (fun _ _ _ h => h) (Or.inl ⟨by rfl, ?_⟩) ?_ ?_
                          rotate_left
                          · intro w'
                            go_simp
                            with_reducible rfl
                          rotate_left
                          · simp only [Act.put, List.setIfInBounds_toArray, List.set_cons_zero, List.set_cons_succ, i64_w, i32_w]
                            rfl
                          refine pure_ (i := 14) (N := some 167) (v := ?_) (a' := ?_) #[true, false, true, true, false, false, false, true, false, true, true, false, false, false, true, false, false, false, false, false, false, false, false, false] rfl rfl (any_of HT_.out (by kernel_rfl)) (fun _ _ _ h => h) (Or.inl ⟨by rfl, ?_⟩) ?_ ?_
                          rotate_left
                          · intro w'
                            go_simp
                            with_reducible rfl
                          rotate_left
                          · simp only [Act.put, List.setIfInBounds_toArray, List.set_cons_zero, List.set_cons_succ, i64_w, i32_w]
                            rfl
                          refine pure_ (i := 16) (N := some 169) (v := ?_) (a' := ?_) #[true, false, true, true, false, false, false, true, false, true, true, false, false, false, true, false, true, false, false, false, false, false, false, false] rfl rfl (any_of HT_.out (by kernel_rfl)) (fun _ _ _ h => h) (Or.inl ⟨by rfl, ?_⟩) ?_ ?_
                          rotate_left
                          · intro w'
                            go_simp
                            with_reducible rfl
                          rotate_left
                          · simp only [Act.put, List.setIfInBounds_toArray, List.set_cons_zero, List.set_cons_succ, i64_w, i32_w]
                            rfl
                          refine pure_ (i := 17) (N := some 170) (v := ?_) (a' := ?_) #[true, false, true, true, false, false, false, true, false, true, true, false, false, false, true, false, true, true, false, false, false, false, false, false] rfl rfl (any_of HT_.out (by kernel_rfl)) (fun _ _ _ h => h) (Or.inl ⟨by rfl, ?_⟩) ?_ ?_
                          rotate_left
                          · intro w'
                            go_simp
                            with_reducible rfl
                          rotate_left
                          · simp only [Act.put, List.setIfInBounds_toArray, List.set_cons_zero, List.set_cons_succ, i64_w, i32_w]
                            rfl
                          refine take_ (i := 1) (N := some 154) (v := ?_) (a' := ?_) #[true, true, true, true, false, false, false, true, false, true, true, false, false, false, true, false, true, true, false, false, false, false, false, false] rfl rfl (take_ofW HT_.out HW_.out (by kernel_rfl)) (fun _ _ _ h => h) (Or.inl ⟨by rfl, ?_⟩) hHeld ?_ ?_
                          rotate_left
                          · rintro w' ⟨s0, s1, s2, s3, s4, s5⟩
                            go_simp
                            with_reducible rfl
                          rotate_left
                          · simp only [Act.put, List.setIfInBounds_toArray, List.set_cons_zero, List.set_cons_succ, i64_w, i32_w]
                            rfl
                          refine take_ (i := 4) (N := some 157) (v := ?_) (a' := ?_) #[true, true, true, true, true, false, false, true, false, true, true, false, false, false, true, false, true, true, false, false, false, false, false, false] rfl rfl (take_ofW HT_.out HW_.out (by kernel_rfl)) (fun _ _ _ h => h) (Or.inl ⟨by rfl, ?_⟩) hHeld ?_ ?_
                          rotate_left
                          · rintro w' ⟨s0, s1, s2, s3, s4, s5⟩
                            go_simp
                            with_reducible rfl
                          rotate_left
                          · simp only [Act.put, List.setIfInBounds_toArray, List.set_cons_zero, List.set_cons_succ, i64_w, i32_w]
                            rfl
                          refine pure_ (i := 5) (N := some 158) (v := ?_) (a' := ?_) #[true, true, true, true, true, true, false, true, false, true, true, false, false, false, true, false, true, true, false, false, false, false, false, false] rfl rfl (any_of HT_.out (by kernel_rfl)) (fun _ _ _ h => h) (Or.inl ⟨by rfl, ?_⟩) ?_ ?_
                          rotate_left
                          · intro w'
                            go_simp
                            with_reducible rfl
                          rotate_left
                          · simp only [Act.put, List.setIfInBounds_toArray, List.set_cons_zero, List.set_cons_succ, i64_w, i32_w]
                            rfl
                          refine pure_ (i := 6) (N := some 159) (v := ?_) (a' := ?_) #[true, true, true, true, true, true, true, true, false, true, true, false, false, false, true, false, true, true, false, false, false, false, false, false] rfl rfl (any_of HT_.out (by kernel_rfl)) (fun _ _ _ h => h) (Or.inl ⟨by rfl, ?_⟩) ?_ ?_
                          rotate_left
                          · intro w'
                            go_simp
                            with_reducible rfl
                          rotate_left
                          · simp only [Act.put, List.setIfInBounds_toArray, List.set_cons_zero, List.set_cons_succ, i64_w, i32_w]
                            rfl
                          refine pure_ (i := 21) (N := some 19) (v := ?_) (a' := ?_) #[true, true, true, true, true, true, true, true, false, true, true, false, false, false, true, false, true, true, false, false, false, true, false, false] rfl rfl (any_of HT_.out (by kernel_rfl)) (fun _ _ _ h => h) (Or.inl ⟨by rfl, ?_⟩) ?_ ?_
                          rotate_left
                          · intro w'
                            go_simp
                            with_reducible rfl
                          rotate_left
                          · simp only [Act.put, List.setIfInBounds_toArray, List.set_cons_zero, List.set_cons_succ, i64_w, i32_w]
                            rfl
                          refine take_ (i := 8) (N := some 161) (v := ?_) (a' := ?_) #[true, true, true, true, true, true, true, true, true, true, true, false, false, false, true, false, true, true, false, false, false, true, false, false] rfl rfl (take_ofW HT_.out HW_.out (by kernel_rfl)) (fun _ _ _ h => h) (Or.inl ⟨by rfl, ?_⟩) hHeld ?_ ?_
                          rotate_left
                          · rintro w' ⟨s0, s1, s2, s3, s4, s5⟩
                            go_simp
                            with_reducible rfl
                          rotate_left
                          · simp only [Act.put, List.setIfInBounds_toArray, List.set_cons_zero, List.set_cons_succ, i64_w, i32_w]
                            rfl
                          refine take_ (i := 11) (N := some 164) (v := ?_) (a' := ?_) #[true, true, true, true, true, true, true, true, true, true, true, true, false, false, true, false, true, true, false, false, false, true, false, false] rfl rfl (take_ofW HT_.out HW_.out (by kernel_rfl)) (fun _ _ _ h => h) (Or.inl ⟨by rfl, ?_⟩) hHeld ?_ ?_
                          rotate_left
                          · rintro w' ⟨s0, s1, s2, s3, s4, s5⟩
                            go_simp
                            with_reducible rfl
                          rotate_left
                          · simp only [Act.put, List.setIfInBounds_toArray, List.set_cons_zero, List.set_cons_succ, i64_w, i32_w]
                            rfl
                          refine pure_ (i := 12) (N := some 165) (v := ?_) (a' := ?_) #[true, true, true, true, true, true, true, true, true, true, true, true, true, false, true, false, true, true, false, false, false, true, false, false] rfl rfl (any_of HT_.out (by kernel_rfl)) (fun _ _ _ h => h) (Or.inl ⟨by rfl, ?_⟩) ?_ ?_
                          rotate_left
                          · intro w'
                            go_simp
                            with_reducible rfl
                          rotate_left
                          · simp only [Act.put, List.setIfInBounds_toArray, List.set_cons_zero, List.set_cons_succ, i64_w, i32_w]
                            rfl
                          refine pure_ (i := 13) (N := some 166) (v := ?_) (a' := ?_) #[true, true, true, true, true, true, true, true, true, true, true, true, true, true, true, false, true, true, false, false, false, true, false, false] rfl rfl (any_of HT_.out (by kernel_rfl)) (fun _ _ _ h => h) (Or.inl ⟨by rfl, ?_⟩) ?_ ?_
                          rotate_left
                          · intro w'
                            go_simp
                            with_reducible rfl
                          rotate_left
                          · simp only [Act.put, List.setIfInBounds_toArray, List.set_cons_zero, List.set_cons_succ, i64_w, i32_w]
                            rfl
                          refine pure_ (i := 22) (N := some 20) (v := ?_) (a' := ?_) #[true, true, true, true, true, true, true, true, true, true, true, true, true, true, true, false, true, true, false, false, false, true, true, false] rfl rfl (any_of HT_.out (by kernel_rfl)) (fun _ _ _ h => h) (Or.inl ⟨by rfl, ?_⟩) ?_ ?_
                          rotate_left
                          · intro w'
                            go_simp
                            with_reducible rfl
                          rotate_left
                          · simp only [Act.put, List.setIfInBounds_toArray, List.set_cons_zero, List.set_cons_succ, i64_w, i32_w]
                            rfl
                          refine take_ (i := 15) (N := some 168) (v := ?_) (a' := ?_) #[true, true, true, true, true, true, true, true, true, true, true, true, true, true, true, true, true, true, false, false, false, true, true, false] rfl rfl (take_ofW HT_.out HW_.out (by kernel_rfl)) (fun _ _ _ h => h) (Or.inl ⟨by rfl, ?_⟩) hHeld ?_ ?_
                          rotate_left
                          · rintro w' ⟨s0, s1, s2, s3, s4, s5⟩
                            go_simp
                            with_reducible rfl
                          rotate_left
                          · simp only [Act.put, List.setIfInBounds_toArray, List.set_cons_zero, List.set_cons_succ, i64_w, i32_w]
                            rfl
                          refine take_ (i := 18) (N := some 171) (v := ?_) (a' := ?_) #[true, true, true, true, true, true, true, true, true, true, true, true, true, true, true, true, true, true, true, false, false, true, true, false] rfl rfl (take_ofW HT_.out HW_.out (by kernel_rfl)) (fun _ _ _ h => h) (Or.inl ⟨by rfl, ?_⟩) hHeld ?_ ?_
                          rotate_left
                          · rintro w' ⟨s0, s1, s2, s3, s4, s5⟩
                            go_simp
                            with_reducible rfl
                          rotate_left
                          · simp only [Act.put, List.setIfInBounds_toArray, List.set_cons_zero, List.set_cons_succ, i64_w, i32_w]
                            rfl
                          refine pure_ (i := 19) (N := some 172) (v := ?_) (a' := ?_) #[true, true, true, true, true, true, true, true, true, true, true, true, true, true, true, true, true, true, true, true, false, true, true, false] rfl rfl (any_of HT_.out (by kernel_rfl)) (fun _ _ _ h => h) (Or.inl ⟨by rfl, ?_⟩) ?_ ?_
                          rotate_left
                          · intro w'
                            go_simp
                            with_reducible rfl
                          rotate_left
                          · simp only [Act.put, List.setIfInBounds_toArray, List.set_cons_zero, List.set_cons_succ, i64_w, i32_w]
                            rfl
                          refine pure_ (i := 20) (N := some 173) (v := ?_) (a' := ?_) #[true, true, true, true, true, true, true, true, true, true, true, true, true, true, true, true, true, true, true, true, true, true, true, false] rfl rfl (any_of HT_.out (by kernel_rfl)) (fun _ _ _ h => h) (Or.inl ⟨by rfl, ?_⟩) ?_ ?_
                          rotate_left
                          · intro w'
                            go_simp
                            with_reducible rfl
                          rotate_left
                          · simp only [Act.put, List.setIfInBounds_toArray, List.set_cons_zero, List.set_cons_succ, i64_w, i32_w]
                            rfl
                          refine pure_ (i := 23) (N := some 21) (v := ?_) (a' := ?_) #[true, true, true, true, true, true, true, true, true, true, true, true, true, true, true, true, true, true, true, true, true, true, true, true] rfl rfl (any_of HT_.out (by kernel_rfl)) (fun _ _ _ h => h) (Or.inl ⟨by rfl, ?_⟩) ?_ ?_
                          rotate_left
                          · intro w'
                            go_simp
                            with_reducible rfl
                          rotate_left
                          · simp only [Act.put, List.setIfInBounds_toArray, List.set_cons_zero, List.set_cons_succ, i64_w, i32_w]
                            rfl
                          refine done_ (done_of HT_.out (by kernel_rfl)) ?_
                          try go_wp2
                          go_ret
                          exact ⟨by first | rfl | (simp [errW_none, errW_some] <;> rfl) | (simp [*, errW_none, errW_some] <;> rfl), by repeat (first | (with_reducible first | exact HB.out | apply below_alloc | apply pw_below_drewN | apply below_drew1 | refine below_set ?_ GE289.out | refine below_set ?_ GE293.out | refine below_set ?_ GE297.out | refine below_set ?_ GE301.out) | exact HB.out)⟩
                    · rw [if_neg c129] at H
                      have c129b0 : decide ((wrap64 (t286 * (wrap64 (Int.tdiv (x4_1.length : Int) t287)))) ≤ (wrap64 (t302 * (x4_1.length : Int)))) = false := decide_eq_false c129
                      (try (have c129b0d := c129b0; simp only [Int.tdiv_eq_ediv_of_nonneg (Int.natCast_nonneg _)] at c129b0d))
                      (try (have c129b0h := c129b0; simp only [hl4_1, hl5_1] at c129b0h))
                      clear c129
                      obtain rfl := Option.some.inj H
                      try go_wp2
                      have n0_ := Aside0.mk (blk_drew BK289.out)
                      have n1_ := Aside0.mk (blk_drew BK293.out)
                      have n2_ := Aside0.mk (blk_drew BK297.out)
                      have n3_ := Aside0.mk (blk_drew BK301.out)
                      have n4_ := Aside0.mk (below_drew1 HB.out)
                      clear BK289
                      clear BK293
                      clear BK297
                      clear BK301
                      clear HB
                      have BK289 := n0_
                      have BK293 := n1_
                      have BK297 := n2_
                      have BK301 := n3_
                      have HB := n4_
                      clear n0_ n1_ n2_ n3_ n4_
                      refine start_ (n := 24) (S := fun w' => w'.cell? ⟨gb289, 0, none⟩ = some (.int .i64 t286) ∧ w'.cell? ⟨gb289, 1, none⟩ = some (.int .i64 t287) ∧ w'.cell? ⟨gb293, 0, none⟩ = some (.int .i64 t290) ∧ w'.cell? ⟨gb293, 1, none⟩ = some (.int .i64 t291) ∧ w'.cell? ⟨gb297, 0, none⟩ = some (.int .i64 t294) ∧ w'.cell? ⟨gb297, 1, none⟩ = some (.int .i64 t295)) (ds := []) #[false, false, false, false, false, false, false, false, false, false, false, false, false, false, false, false, false, false, false, false, false, false, false, false] (by kernel_rfl) rfl rfl ⟨(blk_cell BK289.out 0).trans rfl, (blk_cell BK289.out 1).trans rfl, (blk_cell BK293.out 0).trans rfl, (blk_cell BK293.out 1).trans rfl, (blk_cell BK297.out 0).trans rfl, (blk_cell BK297.out 1).trans rfl⟩ (fun hHeld => ?_); refine with_tabW shapesearchlaw12_EuclidRoots.tab17 shapesearchlaw12_EuclidRoots.bits17 (fun HT_ HW_ => ?_)
                      generalize wc.drew = w139 at BK289 BK293 BK297 BK301 HB hHeld ⊢
                      refine pure_ (i := 0) (N := some 153) (v := ?_) (a' := ?_) #[true, false, false, false, false, false, false, false, false, false, false, false, false, false, false, false, false, false, false, false, false, false, false, false] rfl rfl (any_of HT_.out (by kernel_rfl)) (fun _ _ _ h => h) (Or.inl ⟨by rfl, ?_⟩) ?_ ?_
                      rotate_left
                      · intro w'
                        go_simp
                        with_reducible rfl
                      rotate_left
                      · simp only [Act.put, List.setIfInBounds_toArray, List.set_cons_zero, List.set_cons_succ, i64_w, i32_w]
                        rfl
                      refine pure_ (i := 2) (N := some 155) (v := ?_) (a' := ?_) #[true, false, true, false, false, false, false, false, false, false, false, false, false, false, false, false, false, false, false, false, false, false, false, false] rfl rfl (any_of HT_.out (by kernel_rfl)) (fun _ _ _ h => h) (Or.inl ⟨by rfl, ?_⟩) ?_ ?_
                      rotate_left
                      · intro w'
                        go_simp
                        with_reducible rfl
                      rotate_left
                      · simp only [Act.put, List.setIfInBounds_toArray, List.set_cons_zero, List.set_cons_succ, i64_w, i32_w]
                        rfl
                      refine pure_ (i := 3) (N := some 156) (v := ?_) (a' := ?_) #[true, false, true, true, false, false, false, false, false, false, false, false, false, false, false, false, false, false, false, false, false, false, false, false] rfl rfl (any_of HT_.out (by kernel_rfl)) (fun _ _ _ h => h) (Or.inl ⟨by rfl, ?_⟩) ?_ ?_
                      rotate_left
                      · intro w'
                        go_simp
                        with_reducible rfl
                      rotate_left
                      · simp only [Act.put, List.setIfInBounds_toArray, List.set_cons_zero, List.set_cons_succ, i64_w, i32_w]
                        rfl
                      refine pure_ (i := 7) (N := some 160) (v := ?_) (a' := ?_) #[true, false, true, true, false, false, false, true, false, false, false, false, false, false, false, false, false, false, false, false, false, false, false, false] rfl rfl (any_of HT_.out (by kernel_rfl)) (fun _ _ _ h => h) (Or.inl ⟨by rfl, ?_⟩) ?_ ?_
                      rotate_left
                      · intro w'
                        go_simp
                        with_reducible rfl
                      rotate_left
                      · simp only [Act.put, List.setIfInBounds_toArray, List.set_cons_zero, List.set_cons_succ, i64_w, i32_w]
                        rfl
                      refine pure_ (i := 9) (N := some 162) (v := ?_) (a' := ?_) #[true, false, true, true, false, false, false, true, false, true, false, false, false, false, false, false, false, false, false, false, false, false, false, false] rfl rfl (any_of HT_.out (by kernel_rfl)) (fun _ _ _ h => h) (Or.inl ⟨by rfl, ?_⟩) ?_ ?_
                      rotate_left
                      · intro w'
                        go_simp
                        with_reducible rfl
                      rotate_left
                      · simp only [Act.put, List.setIfInBounds_toArray, List.set_cons_zero, List.set_cons_succ, i64_w, i32_w]
                        rfl
                      refine pure_ (i := 10) (N := some 163) (v := ?_) (a' := ?_) #[true, false, true, true, false, false, false, true, false, true, true, false, false, false, false, false, false, false, false, false, false, false, false, false] rfl rfl (any_of HT_.out (by kernel_rfl)) (fun _ _ _ h => h) (Or.inl ⟨by rfl, ?_⟩) ?_ ?_
                      rotate_left
                      · intro w'
                        go_simp
                        with_reducible rfl
                      rotate_left
                      · simp only [Act.put, List.setIfInBounds_toArray, List.set_cons_zero, List.set_cons_succ, i64_w, i32_w]
                        rfl
                      refine pure_ (i := 14) (N := some 167) (v := ?_) (a' := ?_) #[true, false, true, true, false, false, false, true, false, true, true, false, false, false, true, false, false, false, false, false, false, false, false, false] rfl rfl (any_of HT_.out (by kernel_rfl)) (fun _ _ _ h => h) (Or.inl ⟨by rfl, ?_⟩) ?_ ?_
                      rotate_left
                      · intro w'
                        go_simp
                        with_reducible rfl
                      rotate_left
                      · simp only [Act.put, List.setIfInBounds_toArray, List.set_cons_zero, List.set_cons_succ, i64_w, i32_w]
                        rfl
                      refine pure_ (i := 16) (N := some 169) (v := ?_) (a' := ?_) #[true, false, true, true, false, false, false, true, false, true, true, false, false, false, true, false, true, false, false, false, false, false, false, false] rfl rfl (any_of HT_.out (by kernel_rfl)) (fun _ _ _ h => h) (Or.inl ⟨by rfl, ?_⟩) ?_ ?_
                      rotate_left
                      · intro w'
                        go_simp
                        with_reducible rfl
                      rotate_left
                      · simp only [Act.put, List.setIfInBounds_toArray, List.set_cons_zero, List.set_cons_succ, i64_w, i32_w]
                        rfl
                      refine pure_ (i := 17) (N := some 170) (v := ?_) (a' := ?_) #[true, false, true, true, false, false, false, true, false, true, true, false, false, false, true, false, true, true, false, false, false, false, false, false] rfl rfl (any_of HT_.out (by kernel_rfl)) (fun _ _ _ h => h) (Or.inl ⟨by rfl, ?_⟩) ?_ ?_
                      rotate_left
                      · intro w'
                        go_simp
                        with_reducible rfl
                      rotate_left
                      · simp only [Act.put, List.setIfInBounds_toArray, List.set_cons_zero, List.set_cons_succ, i64_w, i32_w]
                        rfl
                      refine take_ (i := 1) (N := some 154) (v := ?_) (a' := ?_) #[true, true, true, true, false, false, false, true, false, true, true, false, false, false, true, false, true, true, false, false, false, false, false, false] rfl rfl (take_ofW HT_.out HW_.out (by kernel_rfl)) (fun _ _ _ h => h) (Or.inl ⟨by rfl, ?_⟩) hHeld ?_ ?_
                      rotate_left
                      · rintro w' ⟨s0, s1, s2, s3, s4, s5⟩
                        go_simp
                        with_reducible rfl
                      rotate_left
                      · simp only [Act.put, List.setIfInBounds_toArray, List.set_cons_zero, List.set_cons_succ, i64_w, i32_w]
                        rfl
                      refine take_ (i := 4) (N := some 157) (v := ?_) (a' := ?_) #[true, true, true, true, true, false, false, true, false, true, true, false, false, false, true, false, true, true, false, false, false, false, false, false] rfl rfl (take_ofW HT_.out HW_.out (by kernel_rfl)) (fun _ _ _ h => h) (Or.inl ⟨by rfl, ?_⟩) hHeld ?_ ?_
                      rotate_left
                      · rintro w' ⟨s0, s1, s2, s3, s4, s5⟩
                        go_simp
                        with_reducible rfl
                      rotate_left
                      · simp only [Act.put, List.setIfInBounds_toArray, List.set_cons_zero, List.set_cons_succ, i64_w, i32_w]
                        rfl
                      refine pure_ (i := 5) (N := some 158) (v := ?_) (a' := ?_) #[true, true, true, true, true, true, false, true, false, true, true, false, false, false, true, false, true, true, false, false, false, false, false, false] rfl rfl (any_of HT_.out (by kernel_rfl)) (fun _ _ _ h => h) (Or.inl ⟨by rfl, ?_⟩) ?_ ?_
                      rotate_left
                      · intro w'
                        go_simp
                        with_reducible rfl
                      rotate_left
                      · simp only [Act.put, List.setIfInBounds_toArray, List.set_cons_zero, List.set_cons_succ, i64_w, i32_w]
                        rfl
                      refine pure_ (i := 6) (N := some 159) (v := ?_) (a' := ?_) #[true, true, true, true, true, true, true, true, false, true, true, false, false, false, true, false, true, true, false, false, false, false, false, false] rfl rfl (any_of HT_.out (by kernel_rfl)) (fun _ _ _ h => h) (Or.inl ⟨by rfl, ?_⟩) ?_ ?_
                      rotate_left
                      · intro w'
                        go_simp
                        with_reducible rfl
                      rotate_left
                      · simp only [Act.put, List.setIfInBounds_toArray, List.set_cons_zero, List.set_cons_succ, i64_w, i32_w]
                        rfl
                      refine pure_ (i := 21) (N := some 19) (v := ?_) (a' := ?_) #[true, true, true, true, true, true, true, true, false, true, true, false, false, false, true, false, true, true, false, false, false, true, false, false] rfl rfl (any_of HT_.out (by kernel_rfl)) (fun _ _ _ h => h) (Or.inl ⟨by rfl, ?_⟩) ?_ ?_
                      rotate_left
                      · intro w'
                        go_simp
                        with_reducible rfl
                      rotate_left
                      · simp only [Act.put, List.setIfInBounds_toArray, List.set_cons_zero, List.set_cons_succ, i64_w, i32_w]
                        rfl
                      refine take_ (i := 8) (N := some 161) (v := ?_) (a' := ?_) #[true, true, true, true, true, true, true, true, true, true, true, false, false, false, true, false, true, true, false, false, false, true, false, false] rfl rfl (take_ofW HT_.out HW_.out (by kernel_rfl)) (fun _ _ _ h => h) (Or.inl ⟨by rfl, ?_⟩) hHeld ?_ ?_
                      rotate_left
                      · rintro w' ⟨s0, s1, s2, s3, s4, s5⟩
                        go_simp
                        with_reducible rfl
                      rotate_left
                      · simp only [Act.put, List.setIfInBounds_toArray, List.set_cons_zero, List.set_cons_succ, i64_w, i32_w]
                        rfl
                      refine take_ (i := 11) (N := some 164) (v := ?_) (a' := ?_) #[true, true, true, true, true, true, true, true, true, true, true, true, false, false, true, false, true, true, false, false, false, true, false, false] rfl rfl (take_ofW HT_.out HW_.out (by kernel_rfl)) (fun _ _ _ h => h) (Or.inl ⟨by rfl, ?_⟩) hHeld ?_ ?_
                      rotate_left
                      · rintro w' ⟨s0, s1, s2, s3, s4, s5⟩
                        go_simp
                        with_reducible rfl
                      rotate_left
                      · simp only [Act.put, List.setIfInBounds_toArray, List.set_cons_zero, List.set_cons_succ, i64_w, i32_w]
                        rfl
                      refine pure_ (i := 12) (N := some 165) (v := ?_) (a' := ?_) #[true, true, true, true, true, true, true, true, true, true, true, true, true, false, true, false, true, true, false, false, false, true, false, false] rfl rfl (any_of HT_.out (by kernel_rfl)) (fun _ _ _ h => h) (Or.inl ⟨by rfl, ?_⟩) ?_ ?_
                      rotate_left
                      · intro w'
                        go_simp
                        with_reducible rfl
                      rotate_left
                      · simp only [Act.put, List.setIfInBounds_toArray, List.set_cons_zero, List.set_cons_succ, i64_w, i32_w]
                        rfl
                      refine pure_ (i := 13) (N := some 166) (v := ?_) (a' := ?_) #[true, true, true, true, true, true, true, true, true, true, true, true, true, true, true, false, true, true, false, false, false, true, false, false] rfl rfl (any_of HT_.out (by kernel_rfl)) (fun _ _ _ h => h) (Or.inl ⟨by rfl, ?_⟩) ?_ ?_
                      rotate_left
                      · intro w'
                        go_simp
                        with_reducible rfl
                      rotate_left
                      · simp only [Act.put, List.setIfInBounds_toArray, List.set_cons_zero, List.set_cons_succ, i64_w, i32_w]
                        rfl
                      refine pure_ (i := 22) (N := some 20) (v := ?_) (a' := ?_) #[true, true, true, true, true, true, true, true, true, true, true, true, true, true, true, false, true, true, false, false, false, true, true, false] rfl rfl (any_of HT_.out (by kernel_rfl)) (fun _ _ _ h => h) (Or.inl ⟨by rfl, ?_⟩) ?_ ?_
                      rotate_left
                      · intro w'
                        go_simp
                        with_reducible rfl
                      rotate_left
                      · simp only [Act.put, List.setIfInBounds_toArray, List.set_cons_zero, List.set_cons_succ, i64_w, i32_w]
                        rfl
                      refine take_ (i := 15) (N := some 168) (v := ?_) (a' := ?_) #[true, true, true, true, true, true, true, true, true, true, true, true, true, true, true, true, true, true, false, false, false, true, true, false] rfl rfl (take_ofW HT_.out HW_.out (by kernel_rfl)) (fun _ _ _ h => h) (Or.inl ⟨by rfl, ?_⟩) hHeld ?_ ?_
                      rotate_left
                      · rintro w' ⟨s0, s1, s2, s3, s4, s5⟩
                        go_simp
                        with_reducible rfl
                      rotate_left
                      · simp only [Act.put, List.setIfInBounds_toArray, List.set_cons_zero, List.set_cons_succ, i64_w, i32_w]
                        rfl
                      refine take_ (i := 18) (N := some 171) (v := ?_) (a' := ?_) #[true, true, true, true, true, true, true, true, true, true, true, true, true, true, true, true, true, true, true, false, false, true, true, false] rfl rfl (take_ofW HT_.out HW_.out (by kernel_rfl)) (fun _ _ _ h => h) (Or.inl ⟨by rfl, ?_⟩) hHeld ?_ ?_
                      rotate_left
                      · rintro w' ⟨s0, s1, s2, s3, s4, s5⟩
                        go_simp
                        with_reducible rfl
                      rotate_left
                      · simp only [Act.put, List.setIfInBounds_toArray, List.set_cons_zero, List.set_cons_succ, i64_w, i32_w]
                        rfl
                      refine pure_ (i := 19) (N := some 172) (v := ?_) (a' := ?_) #[true, true, true, true, true, true, true, true, true, true, true, true, true, true, true, true, true, true, true, true, false, true, true, false] rfl rfl (any_of HT_.out (by kernel_rfl)) (fun _ _ _ h => h) (Or.inl ⟨by rfl, ?_⟩) ?_ ?_
                      rotate_left
                      · intro w'
                        go_simp
                        with_reducible rfl
                      rotate_left
                      · simp only [Act.put, List.setIfInBounds_toArray, List.set_cons_zero, List.set_cons_succ, i64_w, i32_w]
                        rfl
                      refine pure_ (i := 20) (N := some 173) (v := ?_) (a' := ?_) #[true, true, true, true, true, true, true, true, true, true, true, true, true, true, true, true, true, true, true, true, true, true, true, false] rfl rfl (any_of HT_.out (by kernel_rfl)) (fun _ _ _ h => h) (Or.inl ⟨by rfl, ?_⟩) ?_ ?_
                      rotate_left
                      · intro w'
                        go_simp
                        with_reducible rfl
                      rotate_left
                      · simp only [Act.put, List.setIfInBounds_toArray, List.set_cons_zero, List.set_cons_succ, i64_w, i32_w]
                        rfl
                      refine pure_ (i := 23) (N := some 21) (v := ?_) (a' := ?_) #[true, true, true, true, true, true, true, true, true, true, true, true, true, true, true, true, true, true, true, true, true, true, true, true] rfl rfl (any_of HT_.out (by kernel_rfl)) (fun _ _ _ h => h) (Or.inl ⟨by rfl, ?_⟩) ?_ ?_
                      rotate_left
                      · intro w'
                        go_simp
                        with_reducible rfl
                      rotate_left
                      · simp only [Act.put, List.setIfInBounds_toArray, List.set_cons_zero, List.set_cons_succ, i64_w, i32_w]
                        rfl
                      refine done_ (done_of HT_.out (by kernel_rfl)) ?_
                      try go_wp2
                      go_ret
                      exact ⟨by first | rfl | (simp [errW_none, errW_some] <;> rfl) | (simp [*, errW_none, errW_some] <;> rfl), by repeat (first | (with_reducible first | exact HB.out | apply below_alloc | apply pw_below_drewN | apply below_drew1 | refine below_set ?_ GE289.out | refine below_set ?_ GE293.out | refine below_set ?_ GE297.out | refine below_set ?_ GE301.out) | exact HB.out)⟩

/-- THE ONE PURE STATEMENT of shapesearchlaw12_EuclidRoots: yours. -/
def shapesearchlaw12_EuclidRoots.Pure : Prop := ∀ (l0 : List Int), l0.length ≤ maxLen → l0.length * 8 ≤ 140737488351232 → (∀ x ∈ l0, (Lit.int .i64 x).wf = true) → ∃ k, shapesearchlaw12_EuclidRoots.f k l0 = some true
theorem shapesearchlaw12_EuclidRoots.walk (P : shapesearchlaw12_EuclidRoots.Pure) (a0 : Option Addr) (len0 cap0 : Nat) (z0 : List Int) (w : World) (w0 : (a0 = none ∧ len0 = 0 ∧ cap0 = 0 ∧ z0 = []) ∨ ∃ x, a0 = some x ∧ len0 ≤ cap0 ∧ cap0 ≤ maxLen ∧ z0.length = cap0 ∧ (∀ i, i < z0.length → w.cell? (x.add i) = some (.int .i64 (z0.getD i 0))) ∧ ∀ n ∈ z0, (Lit.int .i64 n).wf = true) (y0 : len0 * 8 ≤ 140737488351232) :
    Calls Try.prog 5 #[.slice a0 len0 cap0] w fun e w' => e = .returned (.bool true) ∧ Below w.heap.size w w' := by
  obtain ⟨l0, rfl, hr0, hm0, hw0, hc0⟩ := ReadsInt.ofRowC w0
  obtain ⟨k, h⟩ := P l0 hm0 y0 hw0
  refine (shapesearchlaw12_EuclidRoots.calls k _ _ l0 true w (Kd.C_of_reads (d := (0 : Int)) (h1 := fun _ => rfl) hr0) hc0 h).mono ?_
  rintro e w' ⟨rfl, hd⟩
  exact ⟨rfl, hd⟩

end Go.Proofs.Ytmkjmplkokfoiaa.PEuclidRoots
