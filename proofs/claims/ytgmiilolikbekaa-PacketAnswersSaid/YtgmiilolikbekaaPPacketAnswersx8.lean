/- This file proves, function by function, what the Go functions that one law uses compute; most of it was printed by a program (wip/tools of this session, over the kit's print). -/
import Derived.Test.YtgmiilolikbekaaPPacketAnswersx0
import Derived.Test.YtgmiilolikbekaaPPacketAnswersx3
import Derived.Test.YtgmiilolikbekaaPPacketAnswersx7
namespace Go.Proofs.Ytgmiilolikbekaa.PPacketAnswers
open Go.RowKit Go.Proofs.YtgmiilolikbekaaW.PrintWords Go.Proofs.YtgmiilolikbekaaW.PrintLast Go.Proofs.YtgmiilolikbekaaW.PrintMore
attribute [local go_sem] max2_int min2_int max_two min_two max_three min_three max_four min_four   -- for this text's walks alone
set_option linter.unusedVariables false
set_option linter.unusedSimpArgs false

/-! ### shapesearchref06_Decode: function 21 -/
mutual
def shapesearchref06_Decode.j0 : Nat → List Int → Int → Int → Bool → Option ((List (S25)) × Int)
  | 0, _, _, _, _ => none
  | k + 1, x0, x4, x5, x47 => if x47 = true then (some (([] : List (S25)), 4)) else (shapesearchref06_Decode.l0 k x0 x4 x5 ([] : List (S25)) 0 0 0)
def shapesearchref06_Decode.l0 : Nat → List Int → Int → Int → List (S25) → Int → Int → Int → Option ((List (S25)) × Int)
  | 0, _, _, _, _, _, _, _ => none
  | k + 1, x0, x4, x5, x7, x9, x317000, x317001 => if x9 < x4 then ((shapesearchref03_Int.f k x0 x5).bind fun bt317 => (if bt317.2.2 = 0 then ((shapesearchref03_Int.f k x0 bt317.2.1).bind fun bt320 => (if bt320.2.2 = 0 then ((shapesearchref06_far.f bt317.1).bind fun t323 => (if t323 = true then (shapesearchref06_Decode.j2 k x0 x4 x7 x9 bt317.1 bt320.1 bt320.2.1 true x317000 x317001) else ((shapesearchref06_far.f bt320.1).bind fun t324 => (shapesearchref06_Decode.j2 k x0 x4 x7 x9 bt317.1 bt320.1 bt320.2.1 t324 x317000 x317001)))) else (some (([] : List (S25)), bt320.2.2)))) else (some (([] : List (S25)), bt317.2.2)))) else (if x5 = (x0.length : Int) then (some (x7, 0)) else (some (([] : List (S25)), 3)))
def shapesearchref06_Decode.j2 : Nat → List Int → Int → List (S25) → Int → Int → Int → Int → Bool → Int → Int → Option ((List (S25)) × Int)
  | 0, _, _, _, _, _, _, _, _, _, _ => none
  | k + 1, x0, x4, x7, x9, x10, x13, x14, x79, x317000, x317001 => if x79 = true then (some (([] : List (S25)), 1)) else ((shapesearchref05_Valid.f (wrap64 (x317000 + x10)) (wrap64 (x317001 + x13))).bind fun t325 => (if t325 = true then (if x7.length < 8796093022208 then (shapesearchref06_Decode.l0 k x0 x4 x14 (x7 ++ [(⟨wrap64 (x317000 + x10), wrap64 (x317001 + x13)⟩ : S25)]) (wrap64 (x9 + 1)) (wrap64 (x317000 + x10)) (wrap64 (x317001 + x13))) else (none)) else (some (([] : List (S25)), 1))))
end
def shapesearchref06_Decode.f (k : Nat) (l0 : List Int) : Option ((List (S25)) × Int) := if (l0.length : Int) < 7 then (some (([] : List (S25)), 2)) else (if 3 ≤ (l0.length : Int) then (if (strOfNums (l0.take 3)).toList = ([84, 83, 49] : List UInt8) then ((shapesearchref03_Intact.f k l0).bind fun t311 => (if t311 = true then (if 0 ≤ (wrap64 ((l0.length : Int) - 4)) then (if (wrap64 ((l0.length : Int) - 4)) ≤ (l0.length : Int) then ((shapesearchref03_Int.f k (l0.take ((wrap64 ((l0.length : Int) - 4)) : Int).toNat) 3).bind fun bt313 => (if bt313.2.2 = 0 then (if bt313.1 < 0 then (shapesearchref06_Decode.j0 k (l0.take ((wrap64 ((l0.length : Int) - 4)) : Int).toNat) bt313.1 bt313.2.1 true) else (shapesearchref06_Decode.j0 k (l0.take ((wrap64 ((l0.length : Int) - 4)) : Int).toNat) bt313.1 bt313.2.1 (decide (bt313.1 > 2000)))) else (some (([] : List (S25)), bt313.2.2)))) else (none)) else (none)) else (some (([] : List (S25)), 5)))) else (some (([] : List (S25)), 3))) else (none))
theorem shapesearchref06_Decode.mono_l : ∀ k, (∀ y0 y1 y2 y3, LeO (shapesearchref06_Decode.j0 k y0 y1 y2 y3) (shapesearchref06_Decode.j0 (k + 1) y0 y1 y2 y3)) ∧ (∀ y0 y1 y2 y3 y4 y5 y6, LeO (shapesearchref06_Decode.l0 k y0 y1 y2 y3 y4 y5 y6) (shapesearchref06_Decode.l0 (k + 1) y0 y1 y2 y3 y4 y5 y6)) ∧ (∀ y0 y1 y2 y3 y4 y5 y6 y7 y8 y9, LeO (shapesearchref06_Decode.j2 k y0 y1 y2 y3 y4 y5 y6 y7 y8 y9) (shapesearchref06_Decode.j2 (k + 1) y0 y1 y2 y3 y4 y5 y6 y7 y8 y9))
  | 0 => ⟨fun _ _ _ _ r h => by simp [shapesearchref06_Decode.j0] at h, fun _ _ _ _ _ _ _ r h => by simp [shapesearchref06_Decode.l0] at h, fun _ _ _ _ _ _ _ _ _ _ r h => by simp [shapesearchref06_Decode.j2] at h⟩
  | k + 1 => by
    obtain ⟨ih0, ih1, ih2⟩ := shapesearchref06_Decode.mono_l k
    refine ⟨?_, ?_, ?_⟩
    · intro y0 y1 y2 y3
      unfold shapesearchref06_Decode.j0
      repeat' first
      | (with_reducible exact ih0 _ _ _ _)
      | (with_reducible exact ih1 _ _ _ _ _ _ _)
      | (with_reducible exact ih2 _ _ _ _ _ _ _ _ _ _)
      | (with_reducible exact shapesearchref03_Int.mono _ _ _)
      | (with_reducible exact shapesearchref03_Intact.mono _ _)
      | (with_reducible exact LeO.refl _)
      | (with_reducible exact LeO.none _)
      | (with_reducible refine LeO.ite ?_ ?_)
      | (with_reducible refine LeO.bind ?_ (fun _ => ?_))
      | exact ih0 _ _ _ _
      | exact ih1 _ _ _ _ _ _ _
      | exact ih2 _ _ _ _ _ _ _ _ _ _
      | exact shapesearchref03_Int.mono _ _ _
      | exact shapesearchref03_Intact.mono _ _
      | exact LeO.none _
      | refine LeO.ite ?_ ?_
      | refine LeO.bind ?_ (fun _ => ?_)
    · intro y0 y1 y2 y3 y4 y5 y6
      unfold shapesearchref06_Decode.l0
      repeat' first
      | (with_reducible exact ih0 _ _ _ _)
      | (with_reducible exact ih1 _ _ _ _ _ _ _)
      | (with_reducible exact ih2 _ _ _ _ _ _ _ _ _ _)
      | (with_reducible exact shapesearchref03_Int.mono _ _ _)
      | (with_reducible exact shapesearchref03_Intact.mono _ _)
      | (with_reducible exact LeO.refl _)
      | (with_reducible exact LeO.none _)
      | (with_reducible refine LeO.ite ?_ ?_)
      | (with_reducible refine LeO.bind ?_ (fun _ => ?_))
      | exact ih0 _ _ _ _
      | exact ih1 _ _ _ _ _ _ _
      | exact ih2 _ _ _ _ _ _ _ _ _ _
      | exact shapesearchref03_Int.mono _ _ _
      | exact shapesearchref03_Intact.mono _ _
      | exact LeO.none _
      | refine LeO.ite ?_ ?_
      | refine LeO.bind ?_ (fun _ => ?_)
    · intro y0 y1 y2 y3 y4 y5 y6 y7 y8 y9
      unfold shapesearchref06_Decode.j2
      repeat' first
      | (with_reducible exact ih0 _ _ _ _)
      | (with_reducible exact ih1 _ _ _ _ _ _ _)
      | (with_reducible exact ih2 _ _ _ _ _ _ _ _ _ _)
      | (with_reducible exact shapesearchref03_Int.mono _ _ _)
      | (with_reducible exact shapesearchref03_Intact.mono _ _)
      | (with_reducible exact LeO.refl _)
      | (with_reducible exact LeO.none _)
      | (with_reducible refine LeO.ite ?_ ?_)
      | (with_reducible refine LeO.bind ?_ (fun _ => ?_))
      | exact ih0 _ _ _ _
      | exact ih1 _ _ _ _ _ _ _
      | exact ih2 _ _ _ _ _ _ _ _ _ _
      | exact shapesearchref03_Int.mono _ _ _
      | exact shapesearchref03_Intact.mono _ _
      | exact LeO.none _
      | refine LeO.ite ?_ ?_
      | refine LeO.bind ?_ (fun _ => ?_)
theorem shapesearchref06_Decode.mono : ∀ a0 k, LeO (shapesearchref06_Decode.f k a0) (shapesearchref06_Decode.f (k + 1) a0) := by
  intro a0 k
  obtain ⟨ih0, ih1, ih2⟩ := shapesearchref06_Decode.mono_l k
  unfold shapesearchref06_Decode.f
  repeat' first
      | (with_reducible exact ih0 _ _ _ _)
      | (with_reducible exact ih1 _ _ _ _ _ _ _)
      | (with_reducible exact ih2 _ _ _ _ _ _ _ _ _ _)
      | (with_reducible exact shapesearchref03_Int.mono _ _ _)
      | (with_reducible exact shapesearchref03_Intact.mono _ _)
      | (with_reducible exact LeO.refl _)
      | (with_reducible exact LeO.none _)
      | (with_reducible refine LeO.ite ?_ ?_)
      | (with_reducible refine LeO.bind ?_ (fun _ => ?_))
      | exact ih0 _ _ _ _
      | exact ih1 _ _ _ _ _ _ _
      | exact ih2 _ _ _ _ _ _ _ _ _ _
      | exact shapesearchref03_Int.mono _ _ _
      | exact shapesearchref03_Intact.mono _ _
      | exact LeO.none _
      | refine LeO.ite ?_ ?_
      | refine LeO.bind ?_ (fun _ => ?_)
set_option maxHeartbeats 8000000 in
set_option maxRecDepth 100000 in
theorem shapesearchref06_Decode.calls (k : Nat) (A0 : Option Addr) (c0 : Nat) (l0 : List Int) (r1 : List (S25)) (r2 : Int) (w : World) (hr0 : Kd.C (Kd.int .u8) w A0 l0.length l0) (hc0 : l0.length ≤ c0) (h : shapesearchref06_Decode.f k l0 = some (r1, r2)) :
    Calls Try.prog 21 #[.slice A0 l0.length c0] w fun e w' => ∃ v0_ : Value, e = .returned (.tuple #[v0_, .int .i64 r2]) ∧ Kd.R k25 25 w' w.heap.size (fun _ => True) v0_ r1 ∧ Below w.heap.size w w' := by
  have hu25 := Try.underlying25
  have HR0 := Aside0.mk hr0
  have HC0 := Aside0.mk hc0
  clear hr0 hc0
  have HB := Aside0.mk (Below.refl w.heap.size w)
  have H : (if (l0.length : Int) < 7 then (some (([] : List (S25)), 2)) else (if 3 ≤ (l0.length : Int) then (if (strOfNums (l0.take 3)).toList = ([84, 83, 49] : List UInt8) then ((shapesearchref03_Intact.f k l0).bind fun t311 => (if t311 = true then (if 0 ≤ (wrap64 ((l0.length : Int) - 4)) then (if (wrap64 ((l0.length : Int) - 4)) ≤ (l0.length : Int) then ((shapesearchref03_Int.f k (l0.take ((wrap64 ((l0.length : Int) - 4)) : Int).toNat) 3).bind fun bt313 => (if bt313.2.2 = 0 then (if bt313.1 < 0 then (shapesearchref06_Decode.j0 k (l0.take ((wrap64 ((l0.length : Int) - 4)) : Int).toNat) bt313.1 bt313.2.1 true) else (shapesearchref06_Decode.j0 k (l0.take ((wrap64 ((l0.length : Int) - 4)) : Int).toNat) bt313.1 bt313.2.1 (decide (bt313.1 > 2000)))) else (some (([] : List (S25)), bt313.2.2)))) else (none)) else (none)) else (some (([] : List (S25)), 5)))) else (some (([] : List (S25)), 3))) else (none))) = some (r1, r2) := h
  clear h
  by_cases c2 : (l0.length : Int) < 7
  · rw [if_pos c2] at H
    have c2b0 : decide ((l0.length : Int) < 7) = true := decide_eq_true c2
    have c2b1 : decide (l0.length < 7) = true := decide_eq_true (by omega)
    clear c2
    simp only [Option.some.injEq, Prod.mk.injEq] at H
    obtain ⟨rfl, rfl⟩ := H
    go_enter Try.func21, Try.ntmps21
    go_wp2
    go_ret2
    exact ⟨_, by first | rfl | (simp [errW_none, errW_some] <;> rfl) | (simp [*, errW_none, errW_some] <;> rfl), by first | exact Kd.R_nil _ _ _ _ _ | exact Kd.N_nil _ _ _ _ _ | exact Kd.V_nil _ _ _ _ _ | exact Kd.Q_nil _ _ _ _ _ | exact Kd.S_nil _ _ _ _ _, by repeat (first | (with_reducible first | exact HB.out | apply below_alloc | apply pw_below_drewN | apply below_drew1) | exact HB.out)⟩
  · rw [if_neg c2] at H
    have c2b0 : decide ((l0.length : Int) < 7) = false := decide_eq_false c2
    have c2b1 : decide (l0.length < 7) = false := decide_eq_false (by omega)
    clear c2
    by_cases c3 : 3 ≤ (l0.length : Int)
    · rw [if_pos c3] at H
      have c3b0 := eq_true c3
      have c3b1 : decide (3 ≤ (l0.length : Int)) = true := decide_eq_true c3
      clear c3
      by_cases c4 : (strOfNums (l0.take 3)).toList = ([84, 83, 49] : List UInt8)
      · rw [if_pos c4] at H
        have c4b0 : ((strOfNums (l0.take 3)).toList == ([84, 83, 49] : List UInt8)) = true := beq_iff_eq.mpr c4
        have c4b1 : ((strOfNums (l0.take 3)).toList != ([84, 83, 49] : List UInt8)) = false := bne_eq_false_iff_eq.mpr c4
        clear c4
        replace H := Option.bind_eq_some_iff.mp H
        obtain ⟨t311, A50, H⟩ := H
        replace H : (if t311 = true then (if 0 ≤ (wrap64 ((l0.length : Int) - 4)) then (if (wrap64 ((l0.length : Int) - 4)) ≤ (l0.length : Int) then ((shapesearchref03_Int.f k (l0.take ((wrap64 ((l0.length : Int) - 4)) : Int).toNat) 3).bind fun bt313 => (if bt313.2.2 = 0 then (if bt313.1 < 0 then (shapesearchref06_Decode.j0 k (l0.take ((wrap64 ((l0.length : Int) - 4)) : Int).toNat) bt313.1 bt313.2.1 true) else (shapesearchref06_Decode.j0 k (l0.take ((wrap64 ((l0.length : Int) - 4)) : Int).toNat) bt313.1 bt313.2.1 (decide (bt313.1 > 2000)))) else (some (([] : List (S25)), bt313.2.2)))) else (none)) else (none)) else (some (([] : List (S25)), 5))) = some (r1, r2) := H
        have A5 := Aside0.mk A50
        clear A50
        by_cases c6 : t311 = true
        · subst c6
          have H1 : (if 0 ≤ (wrap64 ((l0.length : Int) - 4)) then (if (wrap64 ((l0.length : Int) - 4)) ≤ (l0.length : Int) then ((shapesearchref03_Int.f k (l0.take ((wrap64 ((l0.length : Int) - 4)) : Int).toNat) 3).bind fun bt313 => (if bt313.2.2 = 0 then (if bt313.1 < 0 then (shapesearchref06_Decode.j0 k (l0.take ((wrap64 ((l0.length : Int) - 4)) : Int).toNat) bt313.1 bt313.2.1 true) else (shapesearchref06_Decode.j0 k (l0.take ((wrap64 ((l0.length : Int) - 4)) : Int).toNat) bt313.1 bt313.2.1 (decide (bt313.1 > 2000)))) else (some (([] : List (S25)), bt313.2.2)))) else (none)) else (none)) = some (r1, r2) := by rw [if_pos rfl] at H; exact H
          clear H
          have H := H1
          clear H1
          obtain ⟨ji7, hji7⟩ : ∃ j_ : Int, (wrap64 ((l0.length : Int) - 4)) = j_ := ⟨_, rfl⟩
          replace H : (if 0 ≤ (ji7) then (if (ji7) ≤ (l0.length : Int) then ((shapesearchref03_Int.f k (l0.take ((ji7) : Int).toNat) 3).bind fun bt313 => (if bt313.2.2 = 0 then (if bt313.1 < 0 then (shapesearchref06_Decode.j0 k (l0.take ((ji7) : Int).toNat) bt313.1 bt313.2.1 true) else (shapesearchref06_Decode.j0 k (l0.take ((ji7) : Int).toNat) bt313.1 bt313.2.1 (decide (bt313.1 > 2000)))) else (some (([] : List (S25)), bt313.2.2)))) else (none)) else (none)) = some (r1, r2) := by first | (rw [hji7] at H; exact H) | (simp only [hji7] at H ⊢; exact H)
          (try rw [hji7] at A5)
          have hji7w : (IntKind.i64.wrap ((l0.length : Int) - 4)) = ji7 := (i64_w _).trans hji7
          by_cases c8 : 0 ≤ (ji7)
          · rw [if_pos c8] at H
            have c8b0 := eq_true c8
            have c8b1 : decide (0 ≤ (ji7)) = true := decide_eq_true c8
            clear c8
            by_cases c9 : (ji7) ≤ (l0.length : Int)
            · rw [if_pos c9] at H
              have c9b0 := eq_true c9
              have c9b1 : decide ((ji7) ≤ (l0.length : Int)) = true := decide_eq_true c9
              clear c9
              replace H := Option.bind_eq_some_iff.mp H
              obtain ⟨⟨t313, t314, t315⟩, A100, H⟩ := H
              replace H : (if t315 = 0 then (if t313 < 0 then (shapesearchref06_Decode.j0 k (l0.take ((ji7) : Int).toNat) t313 t314 true) else (shapesearchref06_Decode.j0 k (l0.take ((ji7) : Int).toNat) t313 t314 (decide (t313 > 2000)))) else (some (([] : List (S25)), t315))) = some (r1, r2) := H
              have A10 := Aside0.mk A100
              clear A100
              by_cases c11 : t315 = 0
              · rw [if_pos c11] at H
                have c11b0 : (t315 == 0) = true := beq_iff_eq.mpr c11
                have c11b1 : (t315 != 0) = false := bne_eq_false_iff_eq.mpr c11
                clear c11
                have HC12 := Aside0.mk H
                clear H
                obtain ⟨i013, hi013, _, hsz13, _⟩ := info_parts info5
                obtain ⟨hcut13, hA13, hC13⟩ := print_take_of (P := Try.prog) (Value.int .u8) 0 26 5 .i64 Try.underlying26 hi013 hsz13 A0 c0 l0 3 (by omega) (of_decide_eq_true (by first | (with_reducible assumption) | assumption)) HC0.out
                have HR310 := Aside0.mk (Kd.C_of_reads (h1 := fun _ => rfl) (hA13 _ (Kd.reads_of_C HR0.out)))
                have HC310 := Aside0.mk hC13
                clear hA13 hC13 hi013 hsz13
                have hcv14 := Kd.C_string (P := Try.prog) (A := A0) (c := c0) Try.underlying26 Try.underlying5 Try.underlying9 HR310.out
                have hcv14b := hcv14; rw [show (List.take (Int.toNat 3) l0).length = min 3 l0.length from by simp] at hcv14b
                go_enter Try.func21, Try.ntmps21
                go_upto_region 11 with (first | ((with_reducible refine gate_callee (f := 34) rfl ?_); refine goesL_ (some 26) rfl rfl Try.func34 (by kernel_rfl) rfl #[.slice A0 l0.length c0] rfl (by (try simp only [List.map_toArray, List.map_cons, List.map_nil]); first | done | rfl | (simp only [List.length_drop, List.length_take]; rfl)) ?_; (with_reducible refine (shapesearchref03_Intact.calls k _ _ l0 true _ ?side1 ?side2 A5.out).mono ?_); (case side1 => repeat (first | exact HR0.out | (with_reducible refine Kd.C_alloc ?_ _) | (with_reducible refine Kd.C_drewN ?_ _) | (with_reducible refine Kd.C_drew ?_))); (case side2 => exact HC0.out); rintro e w15 ⟨rfl, hb⟩; refine ⟨_, rfl, ?_⟩; have n0_ := Aside0.mk (below_step (by repeat (first | (with_reducible first | exact HB.out | apply below_alloc | apply pw_below_drewN | apply below_drew1) | exact HB.out)) hb); clear HB; have HB := n0_; clear n0_; (try clear hb); (try clear hb2); (try clear hk); (try clear hi); obtain ⟨i016, hi016, _, hsz16, _⟩ := info_parts info5; obtain ⟨hcut16, hA16, hC16⟩ := print_take_of (P := Try.prog) (Value.int .u8) 0 26 5 .i64 Try.underlying26 hi016 hsz16 A0 c0 l0 (ji7) (of_decide_eq_true (by first | (with_reducible assumption) | assumption)) (of_decide_eq_true (by first | (with_reducible assumption) | assumption)) HC0.out; have hL16 := Aside0.mk (show (l0.take ((ji7) : Int).toNat).length = (ji7).toNat from (by rw [List.length_take]; have h_ : ((ji7) : Int) ≤ (l0.length : Int) := of_decide_eq_true (by first | (with_reducible assumption) | assumption); omega)); have HR312 := Aside0.mk (Kd.C_of_reads (h1 := fun _ => rfl) (hA16 _ (Kd.reads_of_C HR0.out))); have HC312 := Aside0.mk hC16; clear hA16 hC16 hi016 hsz16) | ((with_reducible refine gate_callee (f := 35) rfl ?_); refine goesL_ (some 35) rfl rfl Try.func35 (by kernel_rfl) rfl #[.slice A0 (l0.take ((ji7) : Int).toNat).length c0, .int .i64 3] rfl (by (try simp only [List.map_toArray, List.map_cons, List.map_nil]); first | done | (rw [hL16.out] <;> rfl) | (rw [hL44.out] <;> rfl) | (rw [show (l0.take ((ji7) : Int).toNat).length = (ji7).toNat from (by rw [List.length_take]; have h_ : ((ji7) : Int) ≤ (l0.length : Int) := of_decide_eq_true (by first | (with_reducible assumption) | assumption); omega)] <;> rfl) | (simp only [hji7]; rfl) | rfl | (simp only [List.length_drop, List.length_take]; rfl)) ?_; (with_reducible refine (shapesearchref03_Int.calls k _ _ (l0.take ((ji7) : Int).toNat) 3 t313 t314 t315 _ ?side1 ?side2 A10.out).mono ?_); (case side1 => repeat (first | exact (Kd.C_below HR312.out HB.out) | (with_reducible refine Kd.C_alloc ?_ _) | (with_reducible refine Kd.C_drewN ?_ _) | (with_reducible refine Kd.C_drew ?_))); (case side2 => exact HC312.out); rintro e w' ⟨rfl, ⟨nd, rfl⟩⟩; refine ⟨_, rfl, ?_⟩))
                (try simp only [Act.put, List.setIfInBounds_toArray, List.set_cons_zero, List.set_cons_succ])
                go_cut [47] (fun v47 wc => ∃ (kq : Nat) (x47_11 : Bool), v47 = .bool x47_11 ∧ Aside0 (shapesearchref06_Decode.j0 kq (l0.take ((ji7) : Int).toNat) t313 t314 x47_11 = some (r1, r2)) ∧ Aside0 (kq ≤ k) ∧ Aside0 (Below w.heap.size w wc))
                case first =>
                  have H := HC12.out
                  clear HC12
                  by_cases c17 : t313 < 0
                  · rw [if_pos c17] at H
                    have c17b0 : decide (t313 < 0) = true := decide_eq_true c17
                    clear c17
                    (first | rw [c17b0] | (simp only [i64_w, i32_w]; rw [c17b0]) | skip)
                    have H' := Aside0.mk H
                    clear H
                    go_wp2
                    go_meet
                    case rel => exact ⟨_, (true), (by first | rfl | (simp; done) | (simp [*]; done)), H', ⟨by first | omega | exact Nat.le_refl _⟩, ⟨by repeat (first | (with_reducible first | exact HB.out | apply below_alloc | apply pw_below_drewN | apply below_drew1) | exact HB.out)⟩⟩
                  · rw [if_neg c17] at H
                    have c17b0 : decide (t313 < 0) = false := decide_eq_false c17
                    clear c17
                    (first | rw [c17b0] | (simp only [i64_w, i32_w]; rw [c17b0]) | skip)
                    have H' := Aside0.mk H
                    clear H
                    go_wp2
                    go_meet
                    case rel => exact ⟨_, (decide (t313 > 2000)), (by first | rfl | (simp; done) | (simp [*]; done)), H', ⟨by first | omega | exact Nat.le_refl _⟩, ⟨by repeat (first | (with_reducible first | exact HB.out | apply below_alloc | apply pw_below_drewN | apply below_drew1) | exact HB.out)⟩⟩
                case rest =>
                  clear HC12
                  try clear c1
                  try clear hcv1
                  try clear c2
                  try clear c2b0
                  try clear c2b1
                  try clear p2
                  try clear c3
                  try clear c3b0
                  try clear c3b1
                  try clear c4
                  try clear c4b0
                  try clear c4b1
                  try clear c6
                  try clear p6
                  try clear c8
                  try clear c8b0
                  try clear c8b1
                  try clear c9
                  try clear c9b0
                  try clear c9b1
                  try clear c11
                  try clear c11b0
                  try clear c11b1
                  try clear hcv14
                  try clear c17
                  try clear c17b0
                  obtain ⟨kq, x47_11, rfl, HA, HJ11, HB⟩ := hcut
                  cases kq with
                  | zero => exact absurd HA.out (by simp [shapesearchref06_Decode.j0])
                  | succ kj11 =>
                    have H := HA.out
                    clear HA
                    simp only [shapesearchref06_Decode.j0] at H
                    by_cases c18 : x47_11 = true
                    · subst c18
                      have H1 : (some (([] : List (S25)), 4)) = some (r1, r2) := by rw [if_pos rfl] at H; exact H
                      clear H
                      have H := H1
                      clear H1
                      simp only [Option.some.injEq, Prod.mk.injEq] at H
                      obtain ⟨rfl, rfl⟩ := H
                      go_wp2
                      go_ret2
                      exact ⟨_, by first | rfl | (simp [errW_none, errW_some] <;> rfl) | (simp only [← hji7]; first | rfl | (simp [errW_none, errW_some] <;> rfl)) | (simp [*, errW_none, errW_some] <;> rfl), by first | exact Kd.R_nil _ _ _ _ _ | exact Kd.N_nil _ _ _ _ _ | exact Kd.V_nil _ _ _ _ _ | exact Kd.Q_nil _ _ _ _ _ | exact Kd.S_nil _ _ _ _ _, by repeat (first | (with_reducible first | exact HB.out | apply below_alloc | apply pw_below_drewN | apply below_drew1) | exact HB.out)⟩
                    · replace c18 := Bool.eq_false_iff.mpr c18
                      subst c18
                      have H1 : (shapesearchref06_Decode.l0 kj11 (l0.take ((ji7) : Int).toNat) t313 t314 ([] : List (S25)) 0 0 0) = some (r1, r2) := by rw [if_neg (show ¬ (false = true) by decide)] at H; exact H
                      clear H
                      have H := H1
                      clear H1
                      have H' := Aside0.mk H
                      clear H
                      go_wp2_with (first | ((with_reducible refine gate_dst (N := 8) rfl ?_); refine box_event ?hg (N := 8) ?hd (cs := #[.int .i64 0, .int .i64 0]) (t := 25) ?hr ?_; (case hd => rfl); (case hg => rfl); (case hr => first | (go_simp; done) | (go_simp; rfl)); intro gb316 hg w19 hbox hb; have n0_ := Aside0.mk (below_step (by repeat (first | (with_reducible first | exact HB.out | apply below_alloc | apply pw_below_drewN | apply below_drew1) | exact HB.out)) hb); have n1_ := Aside0.mk (hbox); have n2_ := Aside0.mk ((by rw [hg]; exact (below_size (by repeat (first | (with_reducible first | exact HB.out | apply below_alloc | apply pw_below_drewN | apply below_drew1) | exact HB.out))) : w.heap.size ≤ gb316)); have n3_ := Aside0.mk ((by rw [hg]; exact (below_size (by repeat (first | (with_reducible first | exact HB.out | apply below_alloc | apply pw_below_drewN | apply below_drew1) | exact HB.out))) : w.heap.size ≤ gb316)); clear HB; have HB := n0_; have BK316 := n1_; have GW316 := n2_; have GE316 := n3_; clear n0_ n1_ n2_ n3_; clear hb hbox hg; have hcz20_0 : w19.cell? ⟨gb316, 0, none⟩ = some (.int .i64 0) := (blk_cell BK316.out 0).trans rfl; have hcz20_1 : w19.cell? ⟨gb316, 1, none⟩ = some (.int .i64 0) := (blk_cell BK316.out 1).trans rfl; have hfz20_0 := blk_frozen BK316.out 0; have hfz20_1 := blk_frozen BK316.out 1))
                      go_loopg [5, 7, 9] kj11 (fun kq v5 v7 v9 w' => ∃ (x5_2 : Int) (x7_2 : List (S25)) (x9_2 : Int) (x317000_2 : Int) (x317001_2 : Int), v5 = .int .i64 x5_2 ∧ v9 = .int .i64 x9_2 ∧ Aside0 (shapesearchref06_Decode.l0 kq (l0.take ((ji7) : Int).toNat) t313 x5_2 x7_2 x9_2 x317000_2 x317001_2 = some (r1, r2)) ∧ Aside0 (kq ≤ kj11) ∧ Aside0 (Kd.R k25 25 w' w.heap.size (fun k_ => k_ ≠ gb316) v7 x7_2) ∧ Aside0 (w'.heap[gb316]? = some (.cells #[.int .i64 x317000_2, .int .i64 x317001_2] 25 (0, 0))) ∧ Aside0 (Below w.heap.size w w'))
                      case atStart => exact ⟨(t314), (([] : List (S25))), (0), (0), (0), (by first | rfl | (simp; done) | (simp [*]; done)), (by first | rfl | (simp; done) | (simp [*]; done)), H', ⟨Nat.le_refl _⟩, ⟨by first | exact Kd.R_nil _ _ _ _ _ | exact Kd.N_nil _ _ _ _ _ | exact Kd.V_nil _ _ _ _ _ | exact Kd.Q_nil _ _ _ _ _ | exact Kd.S_nil _ _ _ _ _⟩, ⟨by (with_reducible repeat (first | refine blk_drewN ?_ _ | refine blk_drew ?_ | refine blk_alloc ?_ _)); refine blk_put (cs := #[.int .i64 0, .int .i64 0]) ?_ 1 _ rfl; (with_reducible repeat (first | refine blk_drewN ?_ _ | refine blk_drew ?_ | refine blk_alloc ?_ _)); refine blk_put (cs := #[.int .i64 0, .int .i64 0]) ?_ 0 _ rfl; (with_reducible repeat (first | refine blk_drewN ?_ _ | refine blk_drew ?_ | refine blk_alloc ?_ _)); exact BK316.out⟩, ⟨by repeat (first | (with_reducible first | exact HB.out | apply below_alloc | apply pw_below_drewN | apply below_drew1 | refine below_set ?_ GE316.out) | exact HB.out)⟩⟩
                      case round =>
                        clear H'
                        try clear c1
                        try clear hcv1
                        try clear c2
                        try clear c2b0
                        try clear c2b1
                        try clear p2
                        try clear c3
                        try clear c3b0
                        try clear c3b1
                        try clear c4
                        try clear c4b0
                        try clear c4b1
                        try clear c6
                        try clear p6
                        try clear c8
                        try clear c8b0
                        try clear c8b1
                        try clear c9
                        try clear c9b0
                        try clear c9b1
                        try clear c11
                        try clear c11b0
                        try clear c11b1
                        try clear hcv14
                        try clear c17
                        try clear c17b0
                        try clear c18
                        try clear hcz20_0
                        try clear hcz20_1
                        try clear hfz20_0
                        try clear hfz20_1
                        try clear p2
                        try clear p6
                        obtain ⟨x5_2, x7_2, x9_2, x317000_2, x317001_2, rfl, rfl, HA, HK2, HO_7, BK316, HB⟩ := hrel
                        cases gk with
                        | zero => exact absurd HA.out (by simp [shapesearchref06_Decode.l0])
                        | succ k2 =>
                          have H := HA.out
                          clear HA
                          simp only [shapesearchref06_Decode.l0] at H
                          by_cases c21 : x9_2 < t313
                          · rw [if_pos c21] at H
                            have c21b0 : decide (x9_2 < t313) = true := decide_eq_true c21
                            clear c21
                            replace H := Option.bind_eq_some_iff.mp H
                            obtain ⟨⟨t317, t318, t319⟩, A220, H⟩ := H
                            replace H : (if t319 = 0 then ((shapesearchref03_Int.f k2 (l0.take ((ji7) : Int).toNat) t318).bind fun bt320 => (if bt320.2.2 = 0 then ((shapesearchref06_far.f t317).bind fun t323 => (if t323 = true then (shapesearchref06_Decode.j2 k2 (l0.take ((ji7) : Int).toNat) t313 x7_2 x9_2 t317 bt320.1 bt320.2.1 true x317000_2 x317001_2) else ((shapesearchref06_far.f bt320.1).bind fun t324 => (shapesearchref06_Decode.j2 k2 (l0.take ((ji7) : Int).toNat) t313 x7_2 x9_2 t317 bt320.1 bt320.2.1 t324 x317000_2 x317001_2)))) else (some (([] : List (S25)), bt320.2.2)))) else (some (([] : List (S25)), t319))) = some (r1, r2) := H
                            have A22 := Aside0.mk A220
                            clear A220
                            by_cases c23 : t319 = 0
                            · rw [if_pos c23] at H
                              have c23b0 : (t319 == 0) = true := beq_iff_eq.mpr c23
                              have c23b1 : (t319 != 0) = false := bne_eq_false_iff_eq.mpr c23
                              clear c23
                              replace H := Option.bind_eq_some_iff.mp H
                              obtain ⟨⟨t320, t321, t322⟩, A240, H⟩ := H
                              replace H : (if t322 = 0 then ((shapesearchref06_far.f t317).bind fun t323 => (if t323 = true then (shapesearchref06_Decode.j2 k2 (l0.take ((ji7) : Int).toNat) t313 x7_2 x9_2 t317 t320 t321 true x317000_2 x317001_2) else ((shapesearchref06_far.f t320).bind fun t324 => (shapesearchref06_Decode.j2 k2 (l0.take ((ji7) : Int).toNat) t313 x7_2 x9_2 t317 t320 t321 t324 x317000_2 x317001_2)))) else (some (([] : List (S25)), t322))) = some (r1, r2) := H
                              have A24 := Aside0.mk A240
                              clear A240
                              by_cases c25 : t322 = 0
                              · rw [if_pos c25] at H
                                have c25b0 : (t322 == 0) = true := beq_iff_eq.mpr c25
                                have c25b1 : (t322 != 0) = false := bne_eq_false_iff_eq.mpr c25
                                clear c25
                                have HC26 := Aside0.mk H
                                clear H
                                go_upto_region 24 with (first | ((with_reducible refine gate_callee (f := 35) rfl ?_); refine goesL_ (some 57) rfl rfl Try.func35 (by kernel_rfl) rfl #[.slice A0 (l0.take ((ji7) : Int).toNat).length c0, .int .i64 x5_2] rfl (by (try simp only [List.map_toArray, List.map_cons, List.map_nil]); first | done | (rw [hL16.out] <;> rfl) | (rw [hL44.out] <;> rfl) | (rw [show (l0.take ((ji7) : Int).toNat).length = (ji7).toNat from (by rw [List.length_take]; have h_ : ((ji7) : Int) ≤ (l0.length : Int) := of_decide_eq_true (by first | (with_reducible assumption) | assumption); omega)] <;> rfl) | (simp only [hji7]; rfl) | rfl | (simp only [List.length_drop, List.length_take]; rfl)) ?_; (with_reducible refine (shapesearchref03_Int.calls k2 _ _ (l0.take ((ji7) : Int).toNat) x5_2 t317 t318 t319 _ ?side1 ?side2 A22.out).mono ?_); (case side1 => repeat (first | exact (Kd.C_below HR312.out HB.out) | (with_reducible refine Kd.C_alloc ?_ _) | (with_reducible refine Kd.C_drewN ?_ _) | (with_reducible refine Kd.C_drew ?_))); (case side2 => exact HC312.out); rintro e w' ⟨rfl, ⟨nd, rfl⟩⟩; refine ⟨_, rfl, ?_⟩) | ((with_reducible refine gate_callee (f := 35) rfl ?_); refine goesL_ (some 67) rfl rfl Try.func35 (by kernel_rfl) rfl #[.slice A0 (l0.take ((ji7) : Int).toNat).length c0, .int .i64 t318] rfl (by (try simp only [List.map_toArray, List.map_cons, List.map_nil]); first | done | (rw [hL16.out] <;> rfl) | (rw [hL44.out] <;> rfl) | (rw [show (l0.take ((ji7) : Int).toNat).length = (ji7).toNat from (by rw [List.length_take]; have h_ : ((ji7) : Int) ≤ (l0.length : Int) := of_decide_eq_true (by first | (with_reducible assumption) | assumption); omega)] <;> rfl) | (simp only [hji7]; rfl) | rfl | (simp only [List.length_drop, List.length_take]; rfl)) ?_; (with_reducible refine (shapesearchref03_Int.calls k2 _ _ (l0.take ((ji7) : Int).toNat) t318 t320 t321 t322 _ ?side1 ?side2 A24.out).mono ?_); (case side1 => repeat (first | exact (Kd.C_below HR312.out (by repeat (first | (with_reducible first | exact HB.out | apply below_alloc | apply pw_below_drewN | apply below_drew1 | refine below_set ?_ GE316.out) | exact HB.out))) | (with_reducible refine Kd.C_alloc ?_ _) | (with_reducible refine Kd.C_drewN ?_ _) | (with_reducible refine Kd.C_drew ?_))); (case side2 => exact HC312.out); rintro e w' ⟨rfl, ⟨nd, rfl⟩⟩; refine ⟨_, rfl, ?_⟩))
                                (try simp only [Act.put, List.setIfInBounds_toArray, List.set_cons_zero, List.set_cons_succ])
                                go_cut [79] (fun v79 wc => ∃ (kq : Nat) (x79_25 : Bool), v79 = .bool x79_25 ∧ Aside0 (shapesearchref06_Decode.j2 kq (l0.take ((ji7) : Int).toNat) t313 x7_2 x9_2 t317 t320 t321 x79_25 x317000_2 x317001_2 = some (r1, r2)) ∧ Aside0 (kq ≤ k2) ∧ Aside0 (Kd.R k25 25 wc w.heap.size (fun k_ => k_ ≠ gb316) u7 x7_2) ∧ Aside0 (wc.heap[gb316]? = some (.cells #[.int .i64 x317000_2, .int .i64 x317001_2] 25 (0, 0))) ∧ Aside0 (Below w.heap.size w wc))
                                case first =>
                                  have H := HC26.out
                                  clear HC26
                                  replace H := Option.bind_eq_some_iff.mp H
                                  obtain ⟨t323, A270, H⟩ := H
                                  replace H : (if t323 = true then (shapesearchref06_Decode.j2 k2 (l0.take ((ji7) : Int).toNat) t313 x7_2 x9_2 t317 t320 t321 true x317000_2 x317001_2) else ((shapesearchref06_far.f t320).bind fun t324 => (shapesearchref06_Decode.j2 k2 (l0.take ((ji7) : Int).toNat) t313 x7_2 x9_2 t317 t320 t321 t324 x317000_2 x317001_2))) = some (r1, r2) := H
                                  have A27 := Aside0.mk A270
                                  clear A270
                                  by_cases c28 : t323 = true
                                  · subst c28
                                    have H1 : (shapesearchref06_Decode.j2 k2 (l0.take ((ji7) : Int).toNat) t313 x7_2 x9_2 t317 t320 t321 true x317000_2 x317001_2) = some (r1, r2) := by rw [if_pos rfl] at H; exact H
                                    clear H
                                    have H := H1
                                    clear H1
                                    have H' := Aside0.mk H
                                    clear H
                                    go_wp2_with (first | ((with_reducible refine gate_callee (f := 36) rfl ?_); refine goesL_ (some 75) rfl rfl Try.func36 (by kernel_rfl) rfl #[.int .i64 t317] rfl (by (try simp only [List.map_toArray, List.map_cons, List.map_nil]); first | done | rfl | (simp only [List.length_drop, List.length_take]; rfl)) ?_; (with_reducible refine (shapesearchref06_far.calls t317 true _ A27.out).mono ?_); rintro e w' ⟨rfl, ⟨nd, rfl⟩⟩; refine ⟨_, rfl, ?_⟩))
                                    go_meet
                                    case rel => exact ⟨_, (true), (by first | rfl | (simp; done) | (simp [*]; done)), H', ⟨by have := HJ11.out; have := HK2.out; first | omega | exact Nat.le_refl _⟩, ⟨by (with_reducible repeat (first | apply Kd.R_alloc | apply Kd.R_drewN | apply Kd.R_drew)); exact HO_7.out⟩, ⟨by (with_reducible repeat (first | refine blk_drewN ?_ _ | refine blk_drew ?_ | refine blk_alloc ?_ _)); exact BK316.out⟩, ⟨by repeat (first | (with_reducible first | exact HB.out | apply below_alloc | apply pw_below_drewN | apply below_drew1 | refine below_set ?_ GE316.out) | exact HB.out)⟩⟩
                                  · replace c28 := Bool.eq_false_iff.mpr c28
                                    subst c28
                                    have H1 : ((shapesearchref06_far.f t320).bind fun t324 => (shapesearchref06_Decode.j2 k2 (l0.take ((ji7) : Int).toNat) t313 x7_2 x9_2 t317 t320 t321 t324 x317000_2 x317001_2)) = some (r1, r2) := by rw [if_neg (show ¬ (false = true) by decide)] at H; exact H
                                    clear H
                                    have H := H1
                                    clear H1
                                    replace H := Option.bind_eq_some_iff.mp H
                                    obtain ⟨t324, A290, H⟩ := H
                                    replace H : (shapesearchref06_Decode.j2 k2 (l0.take ((ji7) : Int).toNat) t313 x7_2 x9_2 t317 t320 t321 t324 x317000_2 x317001_2) = some (r1, r2) := H
                                    have A29 := Aside0.mk A290
                                    clear A290
                                    have H' := Aside0.mk H
                                    clear H
                                    go_wp2_with (first | ((with_reducible refine gate_callee (f := 36) rfl ?_); refine goesL_ (some 75) rfl rfl Try.func36 (by kernel_rfl) rfl #[.int .i64 t317] rfl (by (try simp only [List.map_toArray, List.map_cons, List.map_nil]); first | done | rfl | (simp only [List.length_drop, List.length_take]; rfl)) ?_; (with_reducible refine (shapesearchref06_far.calls t317 false _ A27.out).mono ?_); rintro e w' ⟨rfl, ⟨nd, rfl⟩⟩; refine ⟨_, rfl, ?_⟩) | (go_at_call 36; (with_reducible refine (shapesearchref06_far.calls t320 t324 _ A29.out).mono ?_); rintro e w' ⟨rfl, ⟨nd, rfl⟩⟩))
                                    go_meet
                                    case rel => exact ⟨_, (t324), (by first | rfl | (simp; done) | (simp [*]; done)), H', ⟨by have := HJ11.out; have := HK2.out; first | omega | exact Nat.le_refl _⟩, ⟨by (with_reducible repeat (first | apply Kd.R_alloc | apply Kd.R_drewN | apply Kd.R_drew)); exact HO_7.out⟩, ⟨by (with_reducible repeat (first | refine blk_drewN ?_ _ | refine blk_drew ?_ | refine blk_alloc ?_ _)); exact BK316.out⟩, ⟨by repeat (first | (with_reducible first | exact HB.out | apply below_alloc | apply pw_below_drewN | apply below_drew1 | refine below_set ?_ GE316.out) | exact HB.out)⟩⟩
                                case rest =>
                                  clear HC26
                                  try clear c1
                                  try clear hcv1
                                  try clear c2
                                  try clear c2b0
                                  try clear c2b1
                                  try clear p2
                                  try clear c3
                                  try clear c3b0
                                  try clear c3b1
                                  try clear c4
                                  try clear c4b0
                                  try clear c4b1
                                  try clear c6
                                  try clear p6
                                  try clear c8
                                  try clear c8b0
                                  try clear c8b1
                                  try clear c9
                                  try clear c9b0
                                  try clear c9b1
                                  try clear c11
                                  try clear c11b0
                                  try clear c11b1
                                  try clear hcv14
                                  try clear c17
                                  try clear c17b0
                                  try clear c18
                                  try clear c21
                                  try clear c21b0
                                  try clear c23
                                  try clear c23b0
                                  try clear c23b1
                                  try clear c25
                                  try clear c25b0
                                  try clear c25b1
                                  try clear c28
                                  try clear hcz20_0
                                  try clear hcz20_1
                                  try clear hfz20_0
                                  try clear hfz20_1
                                  try clear p2
                                  try clear p6
                                  obtain ⟨kq, x79_25, rfl, HA, HJ25, HO_7, BK316, HB⟩ := hcut
                                  cases kq with
                                  | zero => exact absurd HA.out (by simp [shapesearchref06_Decode.j2])
                                  | succ kj25 =>
                                    have H := HA.out
                                    clear HA
                                    simp only [shapesearchref06_Decode.j2] at H
                                    by_cases c30 : x79_25 = true
                                    · subst c30
                                      have H1 : (some (([] : List (S25)), 1)) = some (r1, r2) := by rw [if_pos rfl] at H; exact H
                                      clear H
                                      have H := H1
                                      clear H1
                                      simp only [Option.some.injEq, Prod.mk.injEq] at H
                                      obtain ⟨rfl, rfl⟩ := H
                                      go_wp2
                                      go_ret2
                                      exact ⟨_, by first | rfl | (simp [errW_none, errW_some] <;> rfl) | (simp only [← hji7]; first | rfl | (simp [errW_none, errW_some] <;> rfl)) | (simp [*, errW_none, errW_some] <;> rfl), by first | exact Kd.R_nil _ _ _ _ _ | exact Kd.N_nil _ _ _ _ _ | exact Kd.V_nil _ _ _ _ _ | exact Kd.Q_nil _ _ _ _ _ | exact Kd.S_nil _ _ _ _ _, by repeat (first | (with_reducible first | exact HB.out | apply below_alloc | apply pw_below_drewN | apply below_drew1 | refine below_set ?_ GE316.out) | exact HB.out)⟩
                                    · replace c30 := Bool.eq_false_iff.mpr c30
                                      subst c30
                                      have H1 : ((shapesearchref05_Valid.f (wrap64 (x317000_2 + t317)) (wrap64 (x317001_2 + t320))).bind fun t325 => (if t325 = true then (if x7_2.length < 8796093022208 then (shapesearchref06_Decode.l0 kj25 (l0.take ((ji7) : Int).toNat) t313 t321 (x7_2 ++ [(⟨wrap64 (x317000_2 + t317), wrap64 (x317001_2 + t320)⟩ : S25)]) (wrap64 (x9_2 + 1)) (wrap64 (x317000_2 + t317)) (wrap64 (x317001_2 + t320))) else (none)) else (some (([] : List (S25)), 1)))) = some (r1, r2) := by rw [if_neg (show ¬ (false = true) by decide)] at H; exact H
                                      clear H
                                      have H := H1
                                      clear H1
                                      replace H := Option.bind_eq_some_iff.mp H
                                      obtain ⟨t325, A310, H⟩ := H
                                      replace H : (if t325 = true then (if x7_2.length < 8796093022208 then (shapesearchref06_Decode.l0 kj25 (l0.take ((ji7) : Int).toNat) t313 t321 (x7_2 ++ [(⟨wrap64 (x317000_2 + t317), wrap64 (x317001_2 + t320)⟩ : S25)]) (wrap64 (x9_2 + 1)) (wrap64 (x317000_2 + t317)) (wrap64 (x317001_2 + t320))) else (none)) else (some (([] : List (S25)), 1))) = some (r1, r2) := H
                                      have A31 := Aside0.mk A310
                                      clear A310
                                      by_cases c32 : t325 = true
                                      · subst c32
                                        have H1 : (if x7_2.length < 8796093022208 then (shapesearchref06_Decode.l0 kj25 (l0.take ((ji7) : Int).toNat) t313 t321 (x7_2 ++ [(⟨wrap64 (x317000_2 + t317), wrap64 (x317001_2 + t320)⟩ : S25)]) (wrap64 (x9_2 + 1)) (wrap64 (x317000_2 + t317)) (wrap64 (x317001_2 + t320))) else (none)) = some (r1, r2) := by rw [if_pos rfl] at H; exact H
                                        clear H
                                        have H := H1
                                        clear H1
                                        by_cases c33 : x7_2.length < 8796093022208
                                        · rw [if_pos c33] at H
                                          have LMc33 := Aside0.mk c33
                                          clear c33
                                          obtain ⟨y326, hy326⟩ : ∃ y_ : List (S25), y_ = (x7_2 ++ [(⟨wrap64 (x317000_2 + t317), wrap64 (x317001_2 + t320)⟩ : S25)]) := ⟨_, rfl⟩
                                          replace H : (shapesearchref06_Decode.l0 kj25 (l0.take ((ji7) : Int).toNat) t313 t321 y326 (wrap64 (x9_2 + 1)) (wrap64 (x317000_2 + t317)) (wrap64 (x317001_2 + t320))) = some (r1, r2) := by first | (rw [hy326]; with_reducible exact H) | (have H2_ := (Option.bind_some _ _).symm.trans H; rw [hy326]; with_reducible exact H2_) | (have H2_ := (Option.bind_some _ _).symm.trans H; with_reducible exact H2_) | with_reducible exact H | (rw [hy326]; exact H) | exact H
                                          have Ny326 := Aside0.mk hy326
                                          clear hy326
                                          have H' := Aside0.mk H
                                          clear H
                                          have hcz34_0 : wc.cell? ⟨gb316, 0, none⟩ = some (.int .i64 x317000_2) := (blk_cell BK316.out 0).trans rfl
                                          have hcz34_1 : wc.cell? ⟨gb316, 1, none⟩ = some (.int .i64 x317001_2) := (blk_cell BK316.out 1).trans rfl
                                          have hfz34_0 := blk_frozen BK316.out 0
                                          have hfz34_1 := blk_frozen BK316.out 1
                                          go_wp2_with (first | ((with_reducible refine gate_callee (f := 37) rfl ?_); refine goesL_ (some 91) rfl rfl Try.func37 (by kernel_rfl) rfl #[.agg #[.int .i64 (wrap64 (x317000_2 + t317)), .int .i64 (wrap64 (x317001_2 + t320))]] rfl (by (try simp only [List.map_toArray, List.map_cons, List.map_nil]); first | done | rfl | (simp only [List.length_drop, List.length_take]; rfl)) ?_; (with_reducible refine (shapesearchref05_Valid.calls (wrap64 (x317000_2 + t317)) (wrap64 (x317001_2 + t320)) true _ A31.out).mono ?_); rintro e w35 ⟨rfl, hb⟩; refine ⟨_, rfl, ?_⟩; have n0_ := Aside0.mk (Kd.R_below (by (with_reducible repeat (first | apply Kd.R_alloc | apply Kd.R_drewN | apply Kd.R_drew)); exact (Kd.R_mono (Kd.R_far (p := ⟨gb316, 1, none⟩) (Kd.R_far (p := ⟨gb316, 0, none⟩) (Kd.R_mono HO_7.out (fun k_ hk => (⟨hk, hk⟩ : _ ∧ k_ ≠ gb316))) (fun _ hk => hk.2) (.int .i64 (wrap64 (x317000_2 + t317)))) (fun _ hk => hk.2) (.int .i64 (wrap64 (x317001_2 + t320)))) (fun _ h_ => h_.1))) hb); have n1_ := Aside0.mk (blk_below (g := gb316) (o := .cells #[.int .i64 (wrap64 (x317000_2 + t317)), .int .i64 (wrap64 (x317001_2 + t320))] 25 (0, 0)) (by (with_reducible repeat (first | refine blk_drewN ?_ _ | refine blk_drew ?_ | refine blk_alloc ?_ _)); refine blk_put (cs := #[.int .i64 (wrap64 (x317000_2 + t317)), .int .i64 x317001_2]) ?_ 1 _ rfl; (with_reducible repeat (first | refine blk_drewN ?_ _ | refine blk_drew ?_ | refine blk_alloc ?_ _)); refine blk_put (cs := #[.int .i64 x317000_2, .int .i64 x317001_2]) ?_ 0 _ rfl; (with_reducible repeat (first | refine blk_drewN ?_ _ | refine blk_drew ?_ | refine blk_alloc ?_ _)); exact BK316.out) hb); have n2_ := Aside0.mk (below_step (by repeat (first | (with_reducible first | exact HB.out | apply below_alloc | apply pw_below_drewN | apply below_drew1 | refine below_set ?_ GE316.out) | exact HB.out)) hb); clear HO_7; clear BK316; clear HB; have HO_7 := n0_; have BK316 := n1_; have HB := n2_; clear n0_ n1_ n2_; (try clear hb); (try clear hb2); (try clear hk); (try clear hi); have hcz36_0 : w35.cell? ⟨gb316, 0, none⟩ = some (.int .i64 (wrap64 (x317000_2 + t317))) := (blk_cell BK316.out 0).trans rfl; have hcz36_1 : w35.cell? ⟨gb316, 1, none⟩ = some (.int .i64 (wrap64 (x317001_2 + t320))) := (blk_cell BK316.out 1).trans rfl; have hfz36_0 := blk_frozen BK316.out 0; have hfz36_1 := blk_frozen BK316.out 1) | ((with_reducible refine gate_builtin (b := .append) (xs := #[.tmp 93, .tmp 95]) rfl ?_); at_builtin; refine Kd.R_append k25 (w0 := w) w.heap.size rfl (.tmp 93) (.tmp 95) 23 25 (.agg #[(.int .i64 0), (.int .i64 0)]) 16 rfl Try.underlying23 info25 rfl (by decide) (by omega) u7 x7_2 (⟨wrap64 (x317000_2 + t317), wrap64 (x317001_2 + t320)⟩ : S25) [.int .i64 (wrap64 (x317000_2 + t317)), .int .i64 (wrap64 (x317001_2 + t320))] (fun k_ => k_ ≠ gb316) (fun _ => False) rfl rfl ?aP (fun _ hk => hk.elim) ?aF ?aO ?aB ?aS ?aL ?_; (case aP => exact k25_mkM _ _ _ (⟨wrap64 (x317000_2 + t317), wrap64 (x317001_2 + t320)⟩ : S25)); (case aB => exact (by repeat (first | (with_reducible first | exact HB.out | apply below_alloc | apply pw_below_drewN | apply below_drew1 | refine below_set ?_ GE316.out) | exact HB.out))); (case aF => exact (fun k_ hk => Kd.freshB (g := gb316) (o := .cells #[.int .i64 (wrap64 (x317000_2 + t317)), .int .i64 (wrap64 (x317001_2 + t320))] 25 (0, 0)) (by (with_reducible repeat (first | refine blk_drewN ?_ _ | refine blk_drew ?_ | refine blk_alloc ?_ _)); exact BK316.out) k_ hk)); (case aO => exact (by (with_reducible repeat (first | apply Kd.R_alloc | apply Kd.R_drewN | apply Kd.R_drew)); exact HO_7.out)); (case aS => exact (below_size (by repeat (first | (with_reducible first | exact HB.out | apply below_alloc | apply pw_below_drewN | apply below_drew1 | refine below_set ?_ GE316.out) | exact HB.out)))); (case aL => have := LMc33.out; omega); intro v327 w37 ho hb hg hat; rw [← Ny326.out] at ho; have n0_ := Aside0.mk (blk_grown (g := gb316) (o := .cells #[.int .i64 (wrap64 (x317000_2 + t317)), .int .i64 (wrap64 (x317001_2 + t320))] 25 (0, 0)) (by (with_reducible repeat (first | refine blk_drewN ?_ _ | refine blk_drew ?_ | refine blk_alloc ?_ _)); exact BK316.out) hg (Kd.R_away HO_7.out (fun _ hk => hk))); have n1_ := Aside0.mk (hb); have n2_ := Aside0.mk (ho); clear BK316; clear HB; clear HO_7; have BK316 := n0_; have HB := n1_; have HO328 := n2_; clear n0_ n1_ n2_; clear ho hb hg hat))
                                          go_roundg kj25
                                          case measure => have := HJ11.out; have := HK2.out; have := HJ25.out; omega
                                          case rel => exact ⟨(t321), (y326), (wrap64 (x9_2 + 1)), (wrap64 (x317000_2 + t317)), (wrap64 (x317001_2 + t320)), (by first | rfl | (simp; done) | (simp [*]; done)), (by first | rfl | (simp; done) | (simp [*]; done)), H', ⟨by have := HJ11.out; have := HK2.out; have := HJ25.out; omega⟩, ⟨by (with_reducible repeat (first | apply Kd.R_alloc | apply Kd.R_drewN | apply Kd.R_drew)); exact HO328.out⟩, ⟨by (with_reducible repeat (first | refine blk_drewN ?_ _ | refine blk_drew ?_ | refine blk_alloc ?_ _)); exact BK316.out⟩, ⟨by repeat (first | (with_reducible first | exact HB.out | apply below_alloc | apply pw_below_drewN | apply below_drew1 | refine below_set ?_ GE316.out) | exact HB.out)⟩⟩
                                        · rw [if_neg c33] at H
                                          exact absurd H (by simp)
                                      · replace c32 := Bool.eq_false_iff.mpr c32
                                        subst c32
                                        have H1 : (some (([] : List (S25)), 1)) = some (r1, r2) := by rw [if_neg (show ¬ (false = true) by decide)] at H; exact H
                                        clear H
                                        have H := H1
                                        clear H1
                                        simp only [Option.some.injEq, Prod.mk.injEq] at H
                                        obtain ⟨rfl, rfl⟩ := H
                                        have hcz38_0 : wc.cell? ⟨gb316, 0, none⟩ = some (.int .i64 x317000_2) := (blk_cell BK316.out 0).trans rfl
                                        have hcz38_1 : wc.cell? ⟨gb316, 1, none⟩ = some (.int .i64 x317001_2) := (blk_cell BK316.out 1).trans rfl
                                        have hfz38_0 := blk_frozen BK316.out 0
                                        have hfz38_1 := blk_frozen BK316.out 1
                                        go_wp2_with (first | ((with_reducible refine gate_callee (f := 37) rfl ?_); refine goesL_ (some 91) rfl rfl Try.func37 (by kernel_rfl) rfl #[.agg #[.int .i64 (wrap64 (x317000_2 + t317)), .int .i64 (wrap64 (x317001_2 + t320))]] rfl (by (try simp only [List.map_toArray, List.map_cons, List.map_nil]); first | done | rfl | (simp only [List.length_drop, List.length_take]; rfl)) ?_; (with_reducible refine (shapesearchref05_Valid.calls (wrap64 (x317000_2 + t317)) (wrap64 (x317001_2 + t320)) false _ A31.out).mono ?_); rintro e w39 ⟨rfl, hb⟩; refine ⟨_, rfl, ?_⟩; have n0_ := Aside0.mk (Kd.R_below (by (with_reducible repeat (first | apply Kd.R_alloc | apply Kd.R_drewN | apply Kd.R_drew)); exact (Kd.R_mono (Kd.R_far (p := ⟨gb316, 1, none⟩) (Kd.R_far (p := ⟨gb316, 0, none⟩) (Kd.R_mono HO_7.out (fun k_ hk => (⟨hk, hk⟩ : _ ∧ k_ ≠ gb316))) (fun _ hk => hk.2) (.int .i64 (wrap64 (x317000_2 + t317)))) (fun _ hk => hk.2) (.int .i64 (wrap64 (x317001_2 + t320)))) (fun _ h_ => h_.1))) hb); have n1_ := Aside0.mk (blk_below (g := gb316) (o := .cells #[.int .i64 (wrap64 (x317000_2 + t317)), .int .i64 (wrap64 (x317001_2 + t320))] 25 (0, 0)) (by (with_reducible repeat (first | refine blk_drewN ?_ _ | refine blk_drew ?_ | refine blk_alloc ?_ _)); refine blk_put (cs := #[.int .i64 (wrap64 (x317000_2 + t317)), .int .i64 x317001_2]) ?_ 1 _ rfl; (with_reducible repeat (first | refine blk_drewN ?_ _ | refine blk_drew ?_ | refine blk_alloc ?_ _)); refine blk_put (cs := #[.int .i64 x317000_2, .int .i64 x317001_2]) ?_ 0 _ rfl; (with_reducible repeat (first | refine blk_drewN ?_ _ | refine blk_drew ?_ | refine blk_alloc ?_ _)); exact BK316.out) hb); have n2_ := Aside0.mk (below_step (by repeat (first | (with_reducible first | exact HB.out | apply below_alloc | apply pw_below_drewN | apply below_drew1 | refine below_set ?_ GE316.out) | exact HB.out)) hb); clear HO_7; clear BK316; clear HB; have HO_7 := n0_; have BK316 := n1_; have HB := n2_; clear n0_ n1_ n2_; (try clear hb); (try clear hb2); (try clear hk); (try clear hi)))
                                        go_ret2
                                        exact ⟨_, by first | rfl | (simp [errW_none, errW_some] <;> rfl) | (simp only [← hji7]; first | rfl | (simp [errW_none, errW_some] <;> rfl)) | (simp [*, errW_none, errW_some] <;> rfl), by first | exact Kd.R_nil _ _ _ _ _ | exact Kd.N_nil _ _ _ _ _ | exact Kd.V_nil _ _ _ _ _ | exact Kd.Q_nil _ _ _ _ _ | exact Kd.S_nil _ _ _ _ _, by repeat (first | (with_reducible first | exact HB.out | apply below_alloc | apply pw_below_drewN | apply below_drew1 | refine below_set ?_ GE316.out) | exact HB.out)⟩
                              · rw [if_neg c25] at H
                                have c25b0 : (t322 == 0) = false := beq_eq_false_iff_ne.mpr c25
                                have c25b1 : (t322 != 0) = true := bne_iff_ne.mpr c25
                                simp only [Option.some.injEq, Prod.mk.injEq] at H
                                obtain ⟨rfl, rfl⟩ := H
                                go_wp2_with (first | ((with_reducible refine gate_callee (f := 35) rfl ?_); refine goesL_ (some 57) rfl rfl Try.func35 (by kernel_rfl) rfl #[.slice A0 (l0.take ((ji7) : Int).toNat).length c0, .int .i64 x5_2] rfl (by (try simp only [List.map_toArray, List.map_cons, List.map_nil]); first | done | (rw [hL16.out] <;> rfl) | (rw [hL44.out] <;> rfl) | (rw [show (l0.take ((ji7) : Int).toNat).length = (ji7).toNat from (by rw [List.length_take]; have h_ : ((ji7) : Int) ≤ (l0.length : Int) := of_decide_eq_true (by first | (with_reducible assumption) | assumption); omega)] <;> rfl) | (simp only [hji7]; rfl) | rfl | (simp only [List.length_drop, List.length_take]; rfl)) ?_; (with_reducible refine (shapesearchref03_Int.calls k2 _ _ (l0.take ((ji7) : Int).toNat) x5_2 t317 t318 t319 _ ?side1 ?side2 A22.out).mono ?_); (case side1 => repeat (first | exact (Kd.C_below HR312.out HB.out) | (with_reducible refine Kd.C_alloc ?_ _) | (with_reducible refine Kd.C_drewN ?_ _) | (with_reducible refine Kd.C_drew ?_))); (case side2 => exact HC312.out); rintro e w' ⟨rfl, ⟨nd, rfl⟩⟩; refine ⟨_, rfl, ?_⟩) | ((with_reducible refine gate_callee (f := 35) rfl ?_); refine goesL_ (some 67) rfl rfl Try.func35 (by kernel_rfl) rfl #[.slice A0 (l0.take ((ji7) : Int).toNat).length c0, .int .i64 t318] rfl (by (try simp only [List.map_toArray, List.map_cons, List.map_nil]); first | done | (rw [hL16.out] <;> rfl) | (rw [hL44.out] <;> rfl) | (rw [show (l0.take ((ji7) : Int).toNat).length = (ji7).toNat from (by rw [List.length_take]; have h_ : ((ji7) : Int) ≤ (l0.length : Int) := of_decide_eq_true (by first | (with_reducible assumption) | assumption); omega)] <;> rfl) | (simp only [hji7]; rfl) | rfl | (simp only [List.length_drop, List.length_take]; rfl)) ?_; (with_reducible refine (shapesearchref03_Int.calls k2 _ _ (l0.take ((ji7) : Int).toNat) t318 t320 t321 t322 _ ?side1 ?side2 A24.out).mono ?_); (case side1 => repeat (first | exact (Kd.C_below HR312.out (by repeat (first | (with_reducible first | exact HB.out | apply below_alloc | apply pw_below_drewN | apply below_drew1 | refine below_set ?_ GE316.out) | exact HB.out))) | (with_reducible refine Kd.C_alloc ?_ _) | (with_reducible refine Kd.C_drewN ?_ _) | (with_reducible refine Kd.C_drew ?_))); (case side2 => exact HC312.out); rintro e w' ⟨rfl, ⟨nd, rfl⟩⟩; refine ⟨_, rfl, ?_⟩))
                                go_ret2
                                exact ⟨_, by first | rfl | (simp [errW_none, errW_some] <;> rfl) | (simp only [← hji7]; first | rfl | (simp [errW_none, errW_some] <;> rfl)) | (simp [*, errW_none, errW_some] <;> rfl), by first | exact Kd.R_nil _ _ _ _ _ | exact Kd.N_nil _ _ _ _ _ | exact Kd.V_nil _ _ _ _ _ | exact Kd.Q_nil _ _ _ _ _ | exact Kd.S_nil _ _ _ _ _, by repeat (first | (with_reducible first | exact HB.out | apply below_alloc | apply pw_below_drewN | apply below_drew1 | refine below_set ?_ GE316.out) | exact HB.out)⟩
                            · rw [if_neg c23] at H
                              have c23b0 : (t319 == 0) = false := beq_eq_false_iff_ne.mpr c23
                              have c23b1 : (t319 != 0) = true := bne_iff_ne.mpr c23
                              simp only [Option.some.injEq, Prod.mk.injEq] at H
                              obtain ⟨rfl, rfl⟩ := H
                              go_wp2_with (first | ((with_reducible refine gate_callee (f := 35) rfl ?_); refine goesL_ (some 57) rfl rfl Try.func35 (by kernel_rfl) rfl #[.slice A0 (l0.take ((ji7) : Int).toNat).length c0, .int .i64 x5_2] rfl (by (try simp only [List.map_toArray, List.map_cons, List.map_nil]); first | done | (rw [hL16.out] <;> rfl) | (rw [hL44.out] <;> rfl) | (rw [show (l0.take ((ji7) : Int).toNat).length = (ji7).toNat from (by rw [List.length_take]; have h_ : ((ji7) : Int) ≤ (l0.length : Int) := of_decide_eq_true (by first | (with_reducible assumption) | assumption); omega)] <;> rfl) | (simp only [hji7]; rfl) | rfl | (simp only [List.length_drop, List.length_take]; rfl)) ?_; (with_reducible refine (shapesearchref03_Int.calls k2 _ _ (l0.take ((ji7) : Int).toNat) x5_2 t317 t318 t319 _ ?side1 ?side2 A22.out).mono ?_); (case side1 => repeat (first | exact (Kd.C_below HR312.out HB.out) | (with_reducible refine Kd.C_alloc ?_ _) | (with_reducible refine Kd.C_drewN ?_ _) | (with_reducible refine Kd.C_drew ?_))); (case side2 => exact HC312.out); rintro e w' ⟨rfl, ⟨nd, rfl⟩⟩; refine ⟨_, rfl, ?_⟩))
                              go_ret2
                              exact ⟨_, by first | rfl | (simp [errW_none, errW_some] <;> rfl) | (simp only [← hji7]; first | rfl | (simp [errW_none, errW_some] <;> rfl)) | (simp [*, errW_none, errW_some] <;> rfl), by first | exact Kd.R_nil _ _ _ _ _ | exact Kd.N_nil _ _ _ _ _ | exact Kd.V_nil _ _ _ _ _ | exact Kd.Q_nil _ _ _ _ _ | exact Kd.S_nil _ _ _ _ _, by repeat (first | (with_reducible first | exact HB.out | apply below_alloc | apply pw_below_drewN | apply below_drew1 | refine below_set ?_ GE316.out) | exact HB.out)⟩
                          · rw [if_neg c21] at H
                            have c21b0 : decide (x9_2 < t313) = false := decide_eq_false c21
                            clear c21
                            by_cases c40 : x5_2 = ((l0.take ((ji7) : Int).toNat).length : Int)
                            · rw [if_pos c40] at H
                              have c40b0 : (x5_2 == ((l0.take ((ji7) : Int).toNat).length : Int)) = true := beq_iff_eq.mpr c40
                              have c40b0m := c40b0; (first | (rw [hL16.out, Int.ofNat_toNat] at c40b0m) | (rw [hL44.out, Int.ofNat_toNat] at c40b0m))
                              have c40b1 : (x5_2 != ((l0.take ((ji7) : Int).toNat).length : Int)) = false := bne_eq_false_iff_eq.mpr c40
                              have c40b1m := c40b1; (first | (rw [hL16.out, Int.ofNat_toNat] at c40b1m) | (rw [hL44.out, Int.ofNat_toNat] at c40b1m))
                              clear c40
                              simp only [Option.some.injEq, Prod.mk.injEq] at H
                              obtain ⟨rfl, rfl⟩ := H
                              go_wp2
                              go_ret2
                              exact ⟨_, by first | rfl | (simp [errW_none, errW_some] <;> rfl) | (simp only [← hji7]; first | rfl | (simp [errW_none, errW_some] <;> rfl)) | (simp [*, errW_none, errW_some] <;> rfl), by (with_reducible repeat (first | apply Kd.R_alloc | apply Kd.R_drewN | apply Kd.R_drew)); exact Kd.R_mono HO_7.out (fun _ hk => trivial), by repeat (first | (with_reducible first | exact HB.out | apply below_alloc | apply pw_below_drewN | apply below_drew1 | refine below_set ?_ GE316.out) | exact HB.out)⟩
                            · rw [if_neg c40] at H
                              have c40b0 : (x5_2 == ((l0.take ((ji7) : Int).toNat).length : Int)) = false := beq_eq_false_iff_ne.mpr c40
                              have c40b0m := c40b0; (first | (rw [hL16.out, Int.ofNat_toNat] at c40b0m) | (rw [hL44.out, Int.ofNat_toNat] at c40b0m))
                              have c40b1 : (x5_2 != ((l0.take ((ji7) : Int).toNat).length : Int)) = true := bne_iff_ne.mpr c40
                              have c40b1m := c40b1; (first | (rw [hL16.out, Int.ofNat_toNat] at c40b1m) | (rw [hL44.out, Int.ofNat_toNat] at c40b1m))
                              simp only [Option.some.injEq, Prod.mk.injEq] at H
                              obtain ⟨rfl, rfl⟩ := H
                              go_wp2
                              go_ret2
                              exact ⟨_, by first | rfl | (simp [errW_none, errW_some] <;> rfl) | (simp only [← hji7]; first | rfl | (simp [errW_none, errW_some] <;> rfl)) | (simp [*, errW_none, errW_some] <;> rfl), by first | exact Kd.R_nil _ _ _ _ _ | exact Kd.N_nil _ _ _ _ _ | exact Kd.V_nil _ _ _ _ _ | exact Kd.Q_nil _ _ _ _ _ | exact Kd.S_nil _ _ _ _ _, by repeat (first | (with_reducible first | exact HB.out | apply below_alloc | apply pw_below_drewN | apply below_drew1 | refine below_set ?_ GE316.out) | exact HB.out)⟩
              · rw [if_neg c11] at H
                have c11b0 : (t315 == 0) = false := beq_eq_false_iff_ne.mpr c11
                have c11b1 : (t315 != 0) = true := bne_iff_ne.mpr c11
                simp only [Option.some.injEq, Prod.mk.injEq] at H
                obtain ⟨rfl, rfl⟩ := H
                obtain ⟨i041, hi041, _, hsz41, _⟩ := info_parts info5
                obtain ⟨hcut41, hA41, hC41⟩ := print_take_of (P := Try.prog) (Value.int .u8) 0 26 5 .i64 Try.underlying26 hi041 hsz41 A0 c0 l0 3 (by omega) (of_decide_eq_true (by first | (with_reducible assumption) | assumption)) HC0.out
                have HR310 := Aside0.mk (Kd.C_of_reads (h1 := fun _ => rfl) (hA41 _ (Kd.reads_of_C HR0.out)))
                have HC310 := Aside0.mk hC41
                clear hA41 hC41 hi041 hsz41
                have hcv42 := Kd.C_string (P := Try.prog) (A := A0) (c := c0) Try.underlying26 Try.underlying5 Try.underlying9 HR310.out
                have hcv42b := hcv42; rw [show (List.take (Int.toNat 3) l0).length = min 3 l0.length from by simp] at hcv42b
                go_enter Try.func21, Try.ntmps21
                go_wp2_with (first | ((with_reducible refine gate_callee (f := 34) rfl ?_); refine goesL_ (some 26) rfl rfl Try.func34 (by kernel_rfl) rfl #[.slice A0 l0.length c0] rfl (by (try simp only [List.map_toArray, List.map_cons, List.map_nil]); first | done | rfl | (simp only [List.length_drop, List.length_take]; rfl)) ?_; (with_reducible refine (shapesearchref03_Intact.calls k _ _ l0 true _ ?side1 ?side2 A5.out).mono ?_); (case side1 => repeat (first | exact HR0.out | (with_reducible refine Kd.C_alloc ?_ _) | (with_reducible refine Kd.C_drewN ?_ _) | (with_reducible refine Kd.C_drew ?_))); (case side2 => exact HC0.out); rintro e w43 ⟨rfl, hb⟩; refine ⟨_, rfl, ?_⟩; have n0_ := Aside0.mk (below_step (by repeat (first | (with_reducible first | exact HB.out | apply below_alloc | apply pw_below_drewN | apply below_drew1) | exact HB.out)) hb); clear HB; have HB := n0_; clear n0_; (try clear hb); (try clear hb2); (try clear hk); (try clear hi); obtain ⟨i044, hi044, _, hsz44, _⟩ := info_parts info5; obtain ⟨hcut44, hA44, hC44⟩ := print_take_of (P := Try.prog) (Value.int .u8) 0 26 5 .i64 Try.underlying26 hi044 hsz44 A0 c0 l0 (ji7) (of_decide_eq_true (by first | (with_reducible assumption) | assumption)) (of_decide_eq_true (by first | (with_reducible assumption) | assumption)) HC0.out; have hL44 := Aside0.mk (show (l0.take ((ji7) : Int).toNat).length = (ji7).toNat from (by rw [List.length_take]; have h_ : ((ji7) : Int) ≤ (l0.length : Int) := of_decide_eq_true (by first | (with_reducible assumption) | assumption); omega)); have HR312 := Aside0.mk (Kd.C_of_reads (h1 := fun _ => rfl) (hA44 _ (Kd.reads_of_C HR0.out))); have HC312 := Aside0.mk hC44; clear hA44 hC44 hi044 hsz44) | ((with_reducible refine gate_callee (f := 35) rfl ?_); refine goesL_ (some 35) rfl rfl Try.func35 (by kernel_rfl) rfl #[.slice A0 (l0.take ((ji7) : Int).toNat).length c0, .int .i64 3] rfl (by (try simp only [List.map_toArray, List.map_cons, List.map_nil]); first | done | (rw [hL16.out] <;> rfl) | (rw [hL44.out] <;> rfl) | (rw [show (l0.take ((ji7) : Int).toNat).length = (ji7).toNat from (by rw [List.length_take]; have h_ : ((ji7) : Int) ≤ (l0.length : Int) := of_decide_eq_true (by first | (with_reducible assumption) | assumption); omega)] <;> rfl) | (simp only [hji7]; rfl) | rfl | (simp only [List.length_drop, List.length_take]; rfl)) ?_; (with_reducible refine (shapesearchref03_Int.calls k _ _ (l0.take ((ji7) : Int).toNat) 3 t313 t314 t315 _ ?side1 ?side2 A10.out).mono ?_); (case side1 => repeat (first | exact (Kd.C_below HR312.out HB.out) | (with_reducible refine Kd.C_alloc ?_ _) | (with_reducible refine Kd.C_drewN ?_ _) | (with_reducible refine Kd.C_drew ?_))); (case side2 => exact HC312.out); rintro e w' ⟨rfl, ⟨nd, rfl⟩⟩; refine ⟨_, rfl, ?_⟩))
                go_ret2
                exact ⟨_, by first | rfl | (simp [errW_none, errW_some] <;> rfl) | (simp only [← hji7]; first | rfl | (simp [errW_none, errW_some] <;> rfl)) | (simp [*, errW_none, errW_some] <;> rfl), by first | exact Kd.R_nil _ _ _ _ _ | exact Kd.N_nil _ _ _ _ _ | exact Kd.V_nil _ _ _ _ _ | exact Kd.Q_nil _ _ _ _ _ | exact Kd.S_nil _ _ _ _ _, by repeat (first | (with_reducible first | exact HB.out | apply below_alloc | apply pw_below_drewN | apply below_drew1) | exact HB.out)⟩
            · rw [if_neg c9] at H
              exact absurd H (by simp)
          · rw [if_neg c8] at H
            exact absurd H (by simp)
        · replace c6 := Bool.eq_false_iff.mpr c6
          subst c6
          have H1 : (some (([] : List (S25)), 5)) = some (r1, r2) := by rw [if_neg (show ¬ (false = true) by decide)] at H; exact H
          clear H
          have H := H1
          clear H1
          simp only [Option.some.injEq, Prod.mk.injEq] at H
          obtain ⟨rfl, rfl⟩ := H
          obtain ⟨i045, hi045, _, hsz45, _⟩ := info_parts info5
          obtain ⟨hcut45, hA45, hC45⟩ := print_take_of (P := Try.prog) (Value.int .u8) 0 26 5 .i64 Try.underlying26 hi045 hsz45 A0 c0 l0 3 (by omega) (of_decide_eq_true (by first | (with_reducible assumption) | assumption)) HC0.out
          have HR310 := Aside0.mk (Kd.C_of_reads (h1 := fun _ => rfl) (hA45 _ (Kd.reads_of_C HR0.out)))
          have HC310 := Aside0.mk hC45
          clear hA45 hC45 hi045 hsz45
          have hcv46 := Kd.C_string (P := Try.prog) (A := A0) (c := c0) Try.underlying26 Try.underlying5 Try.underlying9 HR310.out
          have hcv46b := hcv46; rw [show (List.take (Int.toNat 3) l0).length = min 3 l0.length from by simp] at hcv46b
          go_enter Try.func21, Try.ntmps21
          go_wp2_with (first | ((with_reducible refine gate_callee (f := 34) rfl ?_); refine goesL_ (some 26) rfl rfl Try.func34 (by kernel_rfl) rfl #[.slice A0 l0.length c0] rfl (by (try simp only [List.map_toArray, List.map_cons, List.map_nil]); first | done | rfl | (simp only [List.length_drop, List.length_take]; rfl)) ?_; (with_reducible refine (shapesearchref03_Intact.calls k _ _ l0 false _ ?side1 ?side2 A5.out).mono ?_); (case side1 => repeat (first | exact HR0.out | (with_reducible refine Kd.C_alloc ?_ _) | (with_reducible refine Kd.C_drewN ?_ _) | (with_reducible refine Kd.C_drew ?_))); (case side2 => exact HC0.out); rintro e w47 ⟨rfl, hb⟩; refine ⟨_, rfl, ?_⟩; have n0_ := Aside0.mk (below_step (by repeat (first | (with_reducible first | exact HB.out | apply below_alloc | apply pw_below_drewN | apply below_drew1) | exact HB.out)) hb); clear HB; have HB := n0_; clear n0_; (try clear hb); (try clear hb2); (try clear hk); (try clear hi)))
          go_ret2
          exact ⟨_, by first | rfl | (simp [errW_none, errW_some] <;> rfl) | (simp [*, errW_none, errW_some] <;> rfl), by first | exact Kd.R_nil _ _ _ _ _ | exact Kd.N_nil _ _ _ _ _ | exact Kd.V_nil _ _ _ _ _ | exact Kd.Q_nil _ _ _ _ _ | exact Kd.S_nil _ _ _ _ _, by repeat (first | (with_reducible first | exact HB.out | apply below_alloc | apply pw_below_drewN | apply below_drew1) | exact HB.out)⟩
      · rw [if_neg c4] at H
        have c4b0 : ((strOfNums (l0.take 3)).toList == ([84, 83, 49] : List UInt8)) = false := beq_eq_false_iff_ne.mpr c4
        have c4b1 : ((strOfNums (l0.take 3)).toList != ([84, 83, 49] : List UInt8)) = true := bne_iff_ne.mpr c4
        simp only [Option.some.injEq, Prod.mk.injEq] at H
        obtain ⟨rfl, rfl⟩ := H
        obtain ⟨i048, hi048, _, hsz48, _⟩ := info_parts info5
        obtain ⟨hcut48, hA48, hC48⟩ := print_take_of (P := Try.prog) (Value.int .u8) 0 26 5 .i64 Try.underlying26 hi048 hsz48 A0 c0 l0 3 (by omega) (of_decide_eq_true (by first | (with_reducible assumption) | assumption)) HC0.out
        have HR310 := Aside0.mk (Kd.C_of_reads (h1 := fun _ => rfl) (hA48 _ (Kd.reads_of_C HR0.out)))
        have HC310 := Aside0.mk hC48
        clear hA48 hC48 hi048 hsz48
        have hcv49 := Kd.C_string (P := Try.prog) (A := A0) (c := c0) Try.underlying26 Try.underlying5 Try.underlying9 HR310.out
        have hcv49b := hcv49; rw [show (List.take (Int.toNat 3) l0).length = min 3 l0.length from by simp] at hcv49b
        go_enter Try.func21, Try.ntmps21
        go_wp2
        go_ret2
        exact ⟨_, by first | rfl | (simp [errW_none, errW_some] <;> rfl) | (simp [*, errW_none, errW_some] <;> rfl), by first | exact Kd.R_nil _ _ _ _ _ | exact Kd.N_nil _ _ _ _ _ | exact Kd.V_nil _ _ _ _ _ | exact Kd.Q_nil _ _ _ _ _ | exact Kd.S_nil _ _ _ _ _, by repeat (first | (with_reducible first | exact HB.out | apply below_alloc | apply pw_below_drewN | apply below_drew1) | exact HB.out)⟩
    · rw [if_neg c3] at H
      exact absurd H (by simp)

end Go.Proofs.Ytgmiilolikbekaa.PPacketAnswers
