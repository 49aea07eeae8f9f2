/- This file proves, function by function, what the Go functions that one law uses compute; most of it was printed by a program (wip/tools of this session, over the kit's print). -/
import Derived.Test.YtemeojkmchgkjaaPCodecBackx0
import Derived.Test.YtemeojkmchgkjaaPCodecBackx1
namespace Go.Proofs.Ytemeojkmchgkjaa.PCodecBack
open Go.RowKit Go.Proofs.YtemeojkmchgkjaaW.PrintWords Go.Proofs.YtemeojkmchgkjaaW.PrintLast Go.Proofs.YtemeojkmchgkjaaW.PrintMore
attribute [local go_sem] max2_int min2_int max_two min_two max_three min_three max_four min_four   -- for this text's walks alone
set_option linter.unusedVariables false
set_option linter.unusedSimpArgs false

/-! ### codec_Width: function 21 -/
def codec_Width.l0 : Nat → Int → List Int → Int → Int → Option (Int)
  | 0, _, _, _, _ => none
  | k + 1, x3, x6, x7, x8 => if x8 < x7 then (if 0 ≤ x8 then (if x8 < (x6.length : Int) then (if (rd x6 x8) < 0 then (some (-1)) else (if (rd x6 x8) > 4294967295 then (some (-1)) else ((bits_Len.f k (IntKind.u64.wrap (rd x6 x8))).bind fun t113 => (codec_Width.l0 k (mx x3 t113) x6 x7 (wrap64 (x8 + 1)))))) else (none)) else (none)) else (some x3)
def codec_Width.f (k : Nat) (l0 : List Int) : Option (Int) := codec_Width.l0 k 0 l0 (l0.length : Int) 0
theorem codec_Width.mono_l : ∀ k, (∀ y0 y1 y2 y3, LeO (codec_Width.l0 k y0 y1 y2 y3) (codec_Width.l0 (k + 1) y0 y1 y2 y3))
  | 0 => fun _ _ _ _ r h => by simp [codec_Width.l0] at h
  | k + 1 => by
    have ih0 := codec_Width.mono_l k
    · intro y0 y1 y2 y3
      unfold codec_Width.l0
      repeat' first
      | (with_reducible exact ih0 _ _ _ _)
      | (with_reducible exact bits_Len.mono _ _)
      | (with_reducible exact LeO.refl _)
      | (with_reducible exact LeO.none _)
      | (with_reducible refine LeO.ite ?_ ?_)
      | (with_reducible refine LeO.bind ?_ (fun _ => ?_))
      | exact ih0 _ _ _ _
      | exact bits_Len.mono _ _
      | exact LeO.none _
      | refine LeO.ite ?_ ?_
      | refine LeO.bind ?_ (fun _ => ?_)
theorem codec_Width.mono : ∀ a0 k, LeO (codec_Width.f k a0) (codec_Width.f (k + 1) a0) := by
  intro a0 k
  have ih0 := codec_Width.mono_l k
  unfold codec_Width.f
  repeat' first
      | (with_reducible exact ih0 _ _ _ _)
      | (with_reducible exact bits_Len.mono _ _)
      | (with_reducible exact LeO.refl _)
      | (with_reducible exact LeO.none _)
      | (with_reducible refine LeO.ite ?_ ?_)
      | (with_reducible refine LeO.bind ?_ (fun _ => ?_))
      | exact ih0 _ _ _ _
      | exact bits_Len.mono _ _
      | exact LeO.none _
      | refine LeO.ite ?_ ?_
      | refine LeO.bind ?_ (fun _ => ?_)
set_option maxHeartbeats 8000000 in
set_option maxRecDepth 100000 in
theorem codec_Width.calls (k : Nat) (A0 : Option Addr) (c0 : Nat) (l0 : List Int) (r : Int) (w : World) (hr0 : Kd.C (Kd.int .i64) w A0 l0.length l0) (hc0 : l0.length ≤ c0) (h : codec_Width.f k l0 = some r) :
    Calls Try.prog 21 #[.slice A0 l0.length c0] w fun e w' => e = .returned (.int .i64 r) ∧ Below w.heap.size w w' := by
  have HR0 := Aside0.mk hr0
  have HC0 := Aside0.mk hc0
  clear hr0 hc0
  have HB := Aside0.mk (Below.refl w.heap.size w)
  have H : (codec_Width.l0 k 0 l0 (l0.length : Int) 0) = some r := h
  clear h
  have H' := Aside0.mk H
  clear H
  go_enter Try.func21, Try.ntmps21
  go_wp2
  go_loopg [3, 8] k (fun kq v3 v8 w' => ∃ (x3_1 : Int) (x8_1 : Int), v3 = .int .i64 x3_1 ∧ v8 = .int .i64 x8_1 ∧ Aside0 (codec_Width.l0 kq x3_1 l0 (l0.length : Int) x8_1 = some r) ∧ Aside0 (kq ≤ k) ∧ Aside0 (Below w.heap.size w w'))
  case atStart => exact ⟨(0), (0), (by first | rfl | (simp; done) | (simp [*]; done)), (by first | rfl | (simp; done) | (simp [*]; done)), H', ⟨Nat.le_refl _⟩, ⟨by repeat (first | (with_reducible first | exact HB.out | apply below_alloc | apply pw_below_drewN | apply below_drew1) | exact HB.out)⟩⟩
  case round =>
    clear H'
    obtain ⟨x3_1, x8_1, rfl, rfl, HA, HK1, HB⟩ := hrel
    cases gk with
    | zero => exact absurd HA.out (by simp [codec_Width.l0])
    | succ k1 =>
      have H := HA.out
      clear HA
      simp only [codec_Width.l0] at H
      by_cases c2 : x8_1 < (l0.length : Int)
      · rw [if_pos c2] at H
        have c2b0 : decide (x8_1 < (l0.length : Int)) = true := decide_eq_true c2
        clear c2
        by_cases c3 : 0 ≤ x8_1
        · rw [if_pos c3] at H
          have c3b0 : decide (0 ≤ x8_1) = true := decide_eq_true c3
          clear c3
          by_cases c4 : x8_1 < (l0.length : Int)
          · rw [if_pos c4] at H
            have c4b0 : decide (x8_1 < (l0.length : Int)) = true := decide_eq_true c4
            clear c4
            by_cases c5 : (rd l0 x8_1) < 0
            · rw [if_pos c5] at H
              have c5b0 : decide ((rd l0 x8_1) < 0) = true := decide_eq_true c5
              clear c5
              obtain rfl := Option.some.inj H
              have p112 : 0 ≤ (x8_1 : Int) := of_decide_eq_true (by first | (with_reducible assumption) | assumption)
              have q112 : x8_1 < (l0.length : Int) := of_decide_eq_true (by first | (with_reducible assumption) | assumption)
              obtain ⟨ad112, e112, hx112_0⟩ := Kd.at_int HR0.out x8_1 p112 q112
              cases e112
              replace hx112_0 := (HB.out.cell (World.block_lt_of_cell? w _ hx112_0)).trans hx112_0
              replace p112 := eq_true p112
              replace q112 := eq_true q112
              go_wp2
              go_ret
              exact ⟨by first | rfl | (simp [errW_none, errW_some] <;> rfl) | (simp [*, errW_none, errW_some] <;> rfl), by repeat (first | (with_reducible first | exact HB.out | apply below_alloc | apply pw_below_drewN | apply below_drew1) | exact HB.out)⟩
            · rw [if_neg c5] at H
              have c5b0 : decide ((rd l0 x8_1) < 0) = false := decide_eq_false c5
              clear c5
              by_cases c6 : (rd l0 x8_1) > 4294967295
              · rw [if_pos c6] at H
                have c6b0 : decide (4294967295 < (rd l0 x8_1)) = true := decide_eq_true c6
                clear c6
                obtain rfl := Option.some.inj H
                have p112 : 0 ≤ (x8_1 : Int) := of_decide_eq_true (by first | (with_reducible assumption) | assumption)
                have q112 : x8_1 < (l0.length : Int) := of_decide_eq_true (by first | (with_reducible assumption) | assumption)
                obtain ⟨ad112, e112, hx112_0⟩ := Kd.at_int HR0.out x8_1 p112 q112
                cases e112
                replace hx112_0 := (HB.out.cell (World.block_lt_of_cell? w _ hx112_0)).trans hx112_0
                replace p112 := eq_true p112
                replace q112 := eq_true q112
                go_wp2
                go_ret
                exact ⟨by first | rfl | (simp [errW_none, errW_some] <;> rfl) | (simp [*, errW_none, errW_some] <;> rfl), by repeat (first | (with_reducible first | exact HB.out | apply below_alloc | apply pw_below_drewN | apply below_drew1) | exact HB.out)⟩
              · rw [if_neg c6] at H
                have c6b0 : decide (4294967295 < (rd l0 x8_1)) = false := decide_eq_false c6
                clear c6
                replace H := Option.bind_eq_some_iff.mp H
                obtain ⟨t113, A70, H⟩ := H
                replace H : (codec_Width.l0 k1 (mx x3_1 t113) l0 (l0.length : Int) (wrap64 (x8_1 + 1))) = some r := H
                have A7 := Aside0.mk A70
                clear A70
                obtain ⟨ji8, hji8⟩ : ∃ j_ : Int, (mx x3_1 t113) = j_ := ⟨_, rfl⟩
                replace H : (codec_Width.l0 k1 ji8 l0 (l0.length : Int) (wrap64 (x8_1 + 1))) = some r := by first | (rw [hji8] at H; exact H) | (simp only [hji8] at H ⊢; exact H)
                (try rw [hji8] at A7)
                have hji8_ : (if x3_1 < t113 then t113 else x3_1) = ji8 := hji8
                have H' := Aside0.mk H
                clear H
                have p112 : 0 ≤ (x8_1 : Int) := of_decide_eq_true (by first | (with_reducible assumption) | assumption)
                have q112 : x8_1 < (l0.length : Int) := of_decide_eq_true (by first | (with_reducible assumption) | assumption)
                obtain ⟨ad112, e112, hx112_0⟩ := Kd.at_int HR0.out x8_1 p112 q112
                cases e112
                replace hx112_0 := (HB.out.cell (World.block_lt_of_cell? w _ hx112_0)).trans hx112_0
                replace p112 := eq_true p112
                replace q112 := eq_true q112
                go_wp2_with (first | ((with_reducible refine gate_callee (f := 32) rfl ?_); refine goesL_ (some 21) rfl rfl Try.func32 (by kernel_rfl) rfl #[.int .u64 (IntKind.u64.wrap (rd l0 x8_1))] rfl (by (try simp only [List.map_toArray, List.map_cons, List.map_nil]); first | done | rfl | (simp only [List.length_drop, List.length_take]; rfl) | ((try rw [KY23.out]); (try rw [KY51.out]); (try rw [KY53.out]); (try rw [KY54.out]); (try rw [KY55.out]); (try rw [KY56.out]); rfl)) ?_; (with_reducible refine (bits_Len.calls k1 (IntKind.u64.wrap (rd l0 x8_1)) t113 _ A7.out).mono ?_); rintro e w' ⟨rfl, ⟨nd, rfl⟩⟩; refine ⟨_, rfl, ?_⟩))
                go_roundg k1
                case measure => have := HK1.out; omega
                case rel => exact ⟨(ji8), (wrap64 (x8_1 + 1)), (by first | rfl | (simp; done) | (simp only [← hji8] <;> (first | rfl | simp)) | (simp [*]; done)), (by first | rfl | (simp; done) | (simp [*]; done)), H', ⟨by have := HK1.out; omega⟩, ⟨by repeat (first | (with_reducible first | exact HB.out | apply below_alloc | apply pw_below_drewN | apply below_drew1) | exact HB.out)⟩⟩
          · rw [if_neg c4] at H
            exact absurd H (by simp)
        · rw [if_neg c3] at H
          exact absurd H (by simp)
      · rw [if_neg c2] at H
        have c2b0 : decide (x8_1 < (l0.length : Int)) = false := decide_eq_false c2
        clear c2
        obtain rfl := Option.some.inj H
        go_wp2
        go_ret
        exact ⟨by first | rfl | (simp [errW_none, errW_some] <;> rfl) | (simp [*, errW_none, errW_some] <;> rfl), by repeat (first | (with_reducible first | exact HB.out | apply below_alloc | apply pw_below_drewN | apply below_drew1) | exact HB.out)⟩

/-! ### shapesearchlaw03_awake: function 9 -/
def shapesearchlaw03_awake.f (k : Nat)  : Option (Bool) := (codec_Int.f k (([128, 1] : List Int)) 0).bind fun bt117 => ((codec_PutInt.f k ([] : List Int) (-64)).bind fun t120 => (if (strOfNums t120).toList = ([127] : List UInt8) then (if bt117.1 = 64 then (if bt117.2.1 = 2 then (if bt117.2.2 = 0 then ((codec_Width.f k (([0, 5, 3] : List Int))).bind fun t126 => (if t126 = 3 then ((codec_Sum.f (([49, 50, 51, 52, 53, 54, 55, 56, 57] : List Int))).bind fun t130 => (some (t130 == 3421780262))) else (some false))) else (some false)) else (some false)) else (some false)) else (some false)))
theorem shapesearchlaw03_awake.mono : ∀ k, LeO (shapesearchlaw03_awake.f k ) (shapesearchlaw03_awake.f (k + 1) ) := by
  intro  k
  unfold shapesearchlaw03_awake.f
  repeat' first
      | (with_reducible exact codec_Int.mono _ _ _)
      | (with_reducible exact codec_PutInt.mono _ _ _)
      | (with_reducible exact codec_Width.mono _ _)
      | (with_reducible exact LeO.refl _)
      | (with_reducible exact LeO.none _)
      | (with_reducible refine LeO.ite ?_ ?_)
      | (with_reducible refine LeO.bind ?_ (fun _ => ?_))
      | exact codec_Int.mono _ _ _
      | exact codec_PutInt.mono _ _ _
      | exact codec_Width.mono _ _
      | exact LeO.none _
      | refine LeO.ite ?_ ?_
      | refine LeO.bind ?_ (fun _ => ?_)
set_option maxHeartbeats 8000000 in
set_option maxRecDepth 100000 in
theorem shapesearchlaw03_awake.calls (k : Nat)  (r : Bool) (w : World) (h : shapesearchlaw03_awake.f k  = some r) :
    Calls Try.prog 9 #[] w fun e w' => e = .returned (.bool r) ∧ Below w.heap.size w w' := by
  have HB := Aside0.mk (Below.refl w.heap.size w)
  have H : ((codec_Int.f k (([128, 1] : List Int)) 0).bind fun bt117 => ((codec_PutInt.f k ([] : List Int) (-64)).bind fun t120 => (if (strOfNums t120).toList = ([127] : List UInt8) then (if bt117.1 = 64 then (if bt117.2.1 = 2 then (if bt117.2.2 = 0 then ((codec_Width.f k (([0, 5, 3] : List Int))).bind fun t126 => (if t126 = 3 then ((codec_Sum.f (([49, 50, 51, 52, 53, 54, 55, 56, 57] : List Int))).bind fun t130 => (some (t130 == 3421780262))) else (some false))) else (some false)) else (some false)) else (some false)) else (some false)))) = some r := h
  clear h
  obtain ⟨y114, hy114⟩ : ∃ y_ : List Int, y_ = (([128, 1] : List Int)) := ⟨_, rfl⟩
  replace H : ((codec_Int.f k y114 0).bind fun bt117 => ((codec_PutInt.f k ([] : List Int) (-64)).bind fun t120 => (if (strOfNums t120).toList = ([127] : List UInt8) then (if bt117.1 = 64 then (if bt117.2.1 = 2 then (if bt117.2.2 = 0 then ((codec_Width.f k (([0, 5, 3] : List Int))).bind fun t126 => (if t126 = 3 then ((codec_Sum.f (([49, 50, 51, 52, 53, 54, 55, 56, 57] : List Int))).bind fun t130 => (some (t130 == 3421780262))) else (some false))) else (some false)) else (some false)) else (some false)) else (some false)))) = some r := by first | (rw [hy114]; with_reducible exact H) | (have H2_ := (Option.bind_some _ _).symm.trans H; rw [hy114]; with_reducible exact H2_) | (have H2_ := (Option.bind_some _ _).symm.trans H; with_reducible exact H2_) | with_reducible exact H | (rw [hy114]; exact H) | exact H
  have Ny114 := Aside0.mk hy114
  clear hy114
  replace H := Option.bind_eq_some_iff.mp H
  obtain ⟨⟨t117, t118, t119⟩, A10, H⟩ := H
  replace H : ((codec_PutInt.f k ([] : List Int) (-64)).bind fun t120 => (if (strOfNums t120).toList = ([127] : List UInt8) then (if t117 = 64 then (if t118 = 2 then (if t119 = 0 then ((codec_Width.f k (([0, 5, 3] : List Int))).bind fun t126 => (if t126 = 3 then ((codec_Sum.f (([49, 50, 51, 52, 53, 54, 55, 56, 57] : List Int))).bind fun t130 => (some (t130 == 3421780262))) else (some false))) else (some false)) else (some false)) else (some false)) else (some false))) = some r := H
  have A1 := Aside0.mk A10
  clear A10
  replace H := Option.bind_eq_some_iff.mp H
  obtain ⟨t120, A20, H⟩ := H
  replace H : (if (strOfNums t120).toList = ([127] : List UInt8) then (if t117 = 64 then (if t118 = 2 then (if t119 = 0 then ((codec_Width.f k (([0, 5, 3] : List Int))).bind fun t126 => (if t126 = 3 then ((codec_Sum.f (([49, 50, 51, 52, 53, 54, 55, 56, 57] : List Int))).bind fun t130 => (some (t130 == 3421780262))) else (some false))) else (some false)) else (some false)) else (some false)) else (some false)) = some r := H
  have A2 := Aside0.mk A20
  clear A20
  by_cases c3 : (strOfNums t120).toList = ([127] : List UInt8)
  · rw [if_pos c3] at H
    have c3b0 : ((strOfNums t120).toList == ([127] : List UInt8)) = true := beq_iff_eq.mpr c3
    have c3b1 : ((strOfNums t120).toList != ([127] : List UInt8)) = false := bne_eq_false_iff_eq.mpr c3
    clear c3
    by_cases c4 : t117 = 64
    · rw [if_pos c4] at H
      have c4b0 : (t117 == 64) = true := beq_iff_eq.mpr c4
      have c4b1 : (t117 != 64) = false := bne_eq_false_iff_eq.mpr c4
      clear c4
      by_cases c5 : t118 = 2
      · rw [if_pos c5] at H
        have c5b0 : (t118 == 2) = true := beq_iff_eq.mpr c5
        have c5b1 : (t118 != 2) = false := bne_eq_false_iff_eq.mpr c5
        clear c5
        by_cases c6 : t119 = 0
        · rw [if_pos c6] at H
          have c6b0 : (t119 == 0) = true := beq_iff_eq.mpr c6
          have c6b1 : (t119 != 0) = false := bne_eq_false_iff_eq.mpr c6
          clear c6
          obtain ⟨y123, hy123⟩ : ∃ y_ : List Int, y_ = (([0, 5, 3] : List Int)) := ⟨_, rfl⟩
          replace H : ((codec_Width.f k y123).bind fun t126 => (if t126 = 3 then ((codec_Sum.f (([49, 50, 51, 52, 53, 54, 55, 56, 57] : List Int))).bind fun t130 => (some (t130 == 3421780262))) else (some false))) = some r := by first | (rw [hy123]; with_reducible exact H) | (have H2_ := (Option.bind_some _ _).symm.trans H; rw [hy123]; with_reducible exact H2_) | (have H2_ := (Option.bind_some _ _).symm.trans H; with_reducible exact H2_) | with_reducible exact H | (rw [hy123]; exact H) | exact H
          have Ny123 := Aside0.mk hy123
          clear hy123
          replace H := Option.bind_eq_some_iff.mp H
          obtain ⟨t126, A70, H⟩ := H
          replace H : (if t126 = 3 then ((codec_Sum.f (([49, 50, 51, 52, 53, 54, 55, 56, 57] : List Int))).bind fun t130 => (some (t130 == 3421780262))) else (some false)) = some r := H
          have A7 := Aside0.mk A70
          clear A70
          by_cases c8 : t126 = 3
          · rw [if_pos c8] at H
            have c8b0 : (t126 == 3) = true := beq_iff_eq.mpr c8
            have c8b1 : (t126 != 3) = false := bne_eq_false_iff_eq.mpr c8
            clear c8
            obtain ⟨y127, hy127⟩ : ∃ y_ : List Int, y_ = (([49, 50, 51, 52, 53, 54, 55, 56, 57] : List Int)) := ⟨_, rfl⟩
            replace H : ((codec_Sum.f y127).bind fun t130 => (some (t130 == 3421780262))) = some r := by first | (rw [hy127]; with_reducible exact H) | (have H2_ := (Option.bind_some _ _).symm.trans H; rw [hy127]; with_reducible exact H2_) | (have H2_ := (Option.bind_some _ _).symm.trans H; with_reducible exact H2_) | with_reducible exact H | (rw [hy127]; exact H) | exact H
            have Ny127 := Aside0.mk hy127
            clear hy127
            replace H := Option.bind_eq_some_iff.mp H
            obtain ⟨t130, A90, H⟩ := H
            replace H : (some (t130 == 3421780262)) = some r := H
            have A9 := Aside0.mk A90
            clear A90
            obtain rfl := Option.some.inj H
            go_enter Try.func9, Try.ntmps9
            go_wp2_with (first | ((with_reducible refine gate_dst (N := 5) rfl ?_); (try (refine gate_guard (by rfl) ?_; dsimp only)); refine Kd.R_lit (Kd.int .u8) _ 5 ?hg (N := 5) ?hd (xs := ([128, 1] : List Int)) (inner := [.int .u8 128, .int .u8 1]) (ok := fun _ => True) (okp := fun _ => True) ?hr ?hp (fun _ hk => hk) trivial (Below.refl _ _) (Nat.le_refl _) (by simp) ?_; (case hd => rfl); (case hg => rfl); (case hr => first | (go_simp; done) | (go_simp; rfl)); (case hp => exact (Reps.one (show Kd.M (Kd.int .u8) _ _ _ 128 [.int .u8 128] from rfl) (Reps.one (show Kd.M (Kd.int .u8) _ _ _ 1 [.int .u8 1] from rfl) (Reps.none _ _)))); intro v115 w10 ho11 hb hg_ hnew_; clear hg_ hnew_; (first | rw [← Ny114.out] at ho11 | (simp only [Int.reduceToNat] at ho11; rw [← Ny114.out] at ho11)); have n0_ := Aside0.mk (Kd.R_lower ho11 (below_size (by repeat (first | (with_reducible first | exact HB.out | apply below_alloc | apply pw_below_drewN | apply below_drew1) | exact HB.out)))); have n1_ := Aside0.mk (below_step (by repeat (first | (with_reducible first | exact HB.out | apply below_alloc | apply pw_below_drewN | apply below_drew1) | exact HB.out)) hb); clear HB; have HO116 := n0_; have HB := n1_; clear n0_ n1_; clear hb ho11; obtain ⟨Ao12, co12, eo12⟩ := Kd.R_slice HO116.out; subst eo12) | ((with_reducible refine gate_callee (f := 11) rfl ?_); refine goesL_ (some 6) rfl rfl Try.func11 (by kernel_rfl) rfl #[.slice Ao12 y114.length co12, .int .i64 0] rfl (by (try simp only [List.map_toArray, List.map_cons, List.map_nil]); first | done | rfl | (simp only [List.length_drop, List.length_take]; rfl) | ((try rw [KY23.out]); (try rw [KY51.out]); (try rw [KY53.out]); (try rw [KY54.out]); (try rw [KY55.out]); (try rw [KY56.out]); rfl)) ?_; (with_reducible refine (codec_Int.calls k _ _ y114 0 t117 t118 t119 _ ?side1 ?side2 A1.out).mono ?_); (case side1 => repeat (first | exact (Kd.R_reads' HO116.out).2.2 | (with_reducible refine Kd.C_alloc ?_ _) | (with_reducible refine Kd.C_drewN ?_ _) | (with_reducible refine Kd.C_drew ?_))); (case side2 => exact (Kd.R_reads' HO116.out).2.1); rintro e w' ⟨rfl, ⟨nd, rfl⟩⟩; refine ⟨_, rfl, ?_⟩) | ((with_reducible refine gate_callee (f := 10) rfl ?_); refine goesL_ (some 10) rfl rfl Try.func10 (by kernel_rfl) rfl #[.slice none 0 0, .int .i64 (-64)] rfl (by (try simp only [List.map_toArray, List.map_cons, List.map_nil]); first | done | rfl | (simp only [List.length_drop, List.length_take]; rfl) | ((try rw [KY23.out]); (try rw [KY51.out]); (try rw [KY53.out]); (try rw [KY54.out]); (try rw [KY55.out]); (try rw [KY56.out]); rfl)) ?_; (refine (codec_PutInt.calls k _ _ ([] : List Int) (-64) t120 _ ?side1 ?side2 A2.out).mono ?_); (case side1 => exact Kd.C_nil _ _); (case side2 => exact Nat.le_refl _); rintro e w13 ⟨v121, rfl, ho0, hb⟩; refine ⟨_, rfl, ?_⟩; have n0_ := Aside0.mk (Kd.R_elder' (by (with_reducible repeat (first | apply Kd.R_alloc | apply Kd.R_drewN | apply Kd.R_drew)); exact HO116.out) (Kd.R_base ho0) hb); have n1_ := Aside0.mk (Kd.R_lower (Kd.R_new' ho0 (Kd.R_lt (by (with_reducible repeat (first | apply Kd.R_alloc | apply Kd.R_drewN | apply Kd.R_drew)); exact HO116.out))) (below_size (by repeat (first | (with_reducible first | exact HB.out | apply below_alloc | apply pw_below_drewN | apply below_drew1) | exact HB.out)))); have n2_ := Aside0.mk (below_step (by repeat (first | (with_reducible first | exact HB.out | apply below_alloc | apply pw_below_drewN | apply below_drew1) | exact HB.out)) hb); clear HO116; clear HB; have HO116 := n0_; have HO122 := n1_; have HB := n2_; clear n0_ n1_ n2_; (try clear hb); (try clear hb2); (try clear hk); (try clear hi); (try clear ho0); have hcv14 := own_string (P := Try.prog) Try.underlying22 Try.underlying5 Try.underlying9 (Kd.own_of_R HO122.out)) | ((with_reducible refine gate_dst (N := 26) rfl ?_); (try (refine gate_guard (by rfl) ?_; dsimp only)); refine Kd.R_lit (Kd.int .i64) _ 3 ?hg (N := 26) ?hd (xs := ([0, 5, 3] : List Int)) (inner := [.int .i64 0, .int .i64 5, .int .i64 3]) (ok := fun _ => True) (okp := fun _ => True) ?hr ?hp (fun _ hk => hk) trivial (Below.refl _ _) (Nat.le_refl _) (by simp) ?_; (case hd => rfl); (case hg => rfl); (case hr => first | (go_simp; done) | (go_simp; rfl)); (case hp => exact (Reps.one (show Kd.M (Kd.int .i64) _ _ _ 0 [.int .i64 0] from rfl) (Reps.one (show Kd.M (Kd.int .i64) _ _ _ 5 [.int .i64 5] from rfl) (Reps.one (show Kd.M (Kd.int .i64) _ _ _ 3 [.int .i64 3] from rfl) (Reps.none _ _))))); intro v124 w15 ho16 hb hg_ hnew_; clear hg_ hnew_; (first | rw [← Ny123.out] at ho16 | (simp only [Int.reduceToNat] at ho16; rw [← Ny123.out] at ho16)); have n0_ := Aside0.mk (Kd.R_below (by (with_reducible repeat (first | apply Kd.R_alloc | apply Kd.R_drewN | apply Kd.R_drew)); exact HO116.out) hb); have n1_ := Aside0.mk (Kd.R_below (by (with_reducible repeat (first | apply Kd.R_alloc | apply Kd.R_drewN | apply Kd.R_drew)); exact HO122.out) hb); have n2_ := Aside0.mk (Kd.R_lower ho16 (below_size (by repeat (first | (with_reducible first | exact HB.out | apply below_alloc | apply pw_below_drewN | apply below_drew1) | exact HB.out)))); have n3_ := Aside0.mk (below_step (by repeat (first | (with_reducible first | exact HB.out | apply below_alloc | apply pw_below_drewN | apply below_drew1) | exact HB.out)) hb); clear HO116; clear HO122; clear HB; have HO116 := n0_; have HO122 := n1_; have HO125 := n2_; have HB := n3_; clear n0_ n1_ n2_ n3_; clear hb ho16; obtain ⟨Ao17, co17, eo17⟩ := Kd.R_slice HO125.out; subst eo17) | (go_at_call 21; (with_reducible refine (codec_Width.calls k _ _ y123 t126 _ ?side1 ?side2 A7.out).mono ?_); (case side1 => repeat (first | exact (Kd.R_reads' HO125.out).2.2 | (with_reducible refine Kd.C_alloc ?_ _) | (with_reducible refine Kd.C_drewN ?_ _) | (with_reducible refine Kd.C_drew ?_))); (case side2 => exact (Kd.R_reads' HO125.out).2.1); rintro e w18 ⟨rfl, hb⟩; have n0_ := Aside0.mk (Kd.R_below (by (with_reducible repeat (first | apply Kd.R_alloc | apply Kd.R_drewN | apply Kd.R_drew)); exact HO116.out) hb); have n1_ := Aside0.mk (Kd.R_below (by (with_reducible repeat (first | apply Kd.R_alloc | apply Kd.R_drewN | apply Kd.R_drew)); exact HO122.out) hb); have n2_ := Aside0.mk (Kd.R_below (by (with_reducible repeat (first | apply Kd.R_alloc | apply Kd.R_drewN | apply Kd.R_drew)); exact HO125.out) hb); have n3_ := Aside0.mk (below_step (by repeat (first | (with_reducible first | exact HB.out | apply below_alloc | apply pw_below_drewN | apply below_drew1) | exact HB.out)) hb); clear HO116; clear HO122; clear HO125; clear HB; have HO116 := n0_; have HO122 := n1_; have HO125 := n2_; have HB := n3_; clear n0_ n1_ n2_ n3_; (try clear hb); (try clear hb2); (try clear hk); (try clear hi)) | ((with_reducible refine gate_dst (N := 31) rfl ?_); (try (refine gate_guard (by rfl) ?_; dsimp only)); refine lit_only 5 ?hg (xs := y127) (ys := ([49, 50, 51, 52, 53, 54, 55, 56, 57] : List Int)) (inner := [.int .u8 49, .int .u8 50, .int .u8 51, .int .u8 52, .int .u8 53, .int .u8 54, .int .u8 55, .int .u8 56, .int .u8 57]) Ny127.out rfl ?hr ?_; (case hg => rfl); (case hr => first | (go_simp; done) | (go_simp; rfl)); intro Ao21 co21 w19a hl_; have HL_ := Aside0.mk hl_; clear hl_) | ((with_reducible refine gate_dst (N := 32) rfl ?_); (try (refine gate_guard (by rfl) ?_; dsimp only)); refine conv_only (x := .tmp 31) HL_.out 22 ?hg ?hop Try.underlying22 Try.underlying5 ?htm ?hm ?_; (case hg => rfl); (case hop => rfl); (case htm => rfl); (case hm => rw [Ny127.out]; decide); intro w19 hlc_ hC_ hb; have n0_ := Aside0.mk (Kd.R_below (by (with_reducible repeat (first | apply Kd.R_alloc | apply Kd.R_drewN | apply Kd.R_drew)); exact HO116.out) hb); have n1_ := Aside0.mk (Kd.R_below (by (with_reducible repeat (first | apply Kd.R_alloc | apply Kd.R_drewN | apply Kd.R_drew)); exact HO122.out) hb); have n2_ := Aside0.mk (Kd.R_below (by (with_reducible repeat (first | apply Kd.R_alloc | apply Kd.R_drewN | apply Kd.R_drew)); exact HO125.out) hb); have nb_ := Aside0.mk (below_step (by repeat (first | (with_reducible first | exact HB.out | apply below_alloc | apply pw_below_drewN | apply below_drew1) | exact HB.out)) hb); clear HO116; clear HO122; clear HO125; clear HB; have HO116 := n0_; have HO122 := n1_; have HO125 := n2_; have HB := nb_; clear nb_ hb HL_; clear n0_; clear n1_; clear n2_; have HK129 := Aside0.mk (And.intro hlc_ hC_); clear hlc_ hC_) | (go_at_call 13; (with_reducible refine (codec_Sum.calls _ _ y127 t130 _ ?side1 ?side2 A9.out).mono ?_); (case side1 => exact HK129.out.2); (case side2 => exact HK129.out.1); rintro e w22 ⟨rfl, hb⟩; have n0_ := Aside0.mk (Kd.R_below (by (with_reducible repeat (first | apply Kd.R_alloc | apply Kd.R_drewN | apply Kd.R_drew)); exact HO116.out) hb); have n1_ := Aside0.mk (Kd.R_below (by (with_reducible repeat (first | apply Kd.R_alloc | apply Kd.R_drewN | apply Kd.R_drew)); exact HO122.out) hb); have n2_ := Aside0.mk (Kd.R_below (by (with_reducible repeat (first | apply Kd.R_alloc | apply Kd.R_drewN | apply Kd.R_drew)); exact HO125.out) hb); clear HK129; have n3_ := Aside0.mk True.intro; have n4_ := Aside0.mk (below_step (by repeat (first | (with_reducible first | exact HB.out | apply below_alloc | apply pw_below_drewN | apply below_drew1) | exact HB.out)) hb); clear HO116; clear HO122; clear HO125; clear HB; have HO116 := n0_; have HO122 := n1_; have HO125 := n2_; have HO129 := n3_; have HB := n4_; clear n0_ n1_ n2_ n3_ n4_; (try clear hb); (try clear hb2); (try clear hk); (try clear hi)))
            go_ret
            exact ⟨by first | rfl | (simp [errW_none, errW_some] <;> rfl) | (simp [*, errW_none, errW_some] <;> rfl), by repeat (first | (with_reducible first | exact HB.out | apply below_alloc | apply pw_below_drewN | apply below_drew1) | exact HB.out)⟩
          · rw [if_neg c8] at H
            have c8b0 : (t126 == 3) = false := beq_eq_false_iff_ne.mpr c8
            have c8b1 : (t126 != 3) = true := bne_iff_ne.mpr c8
            obtain rfl := Option.some.inj H
            go_enter Try.func9, Try.ntmps9
            go_wp2_with (first | ((with_reducible refine gate_dst (N := 5) rfl ?_); (try (refine gate_guard (by rfl) ?_; dsimp only)); refine Kd.R_lit (Kd.int .u8) _ 5 ?hg (N := 5) ?hd (xs := ([128, 1] : List Int)) (inner := [.int .u8 128, .int .u8 1]) (ok := fun _ => True) (okp := fun _ => True) ?hr ?hp (fun _ hk => hk) trivial (Below.refl _ _) (Nat.le_refl _) (by simp) ?_; (case hd => rfl); (case hg => rfl); (case hr => first | (go_simp; done) | (go_simp; rfl)); (case hp => exact (Reps.one (show Kd.M (Kd.int .u8) _ _ _ 128 [.int .u8 128] from rfl) (Reps.one (show Kd.M (Kd.int .u8) _ _ _ 1 [.int .u8 1] from rfl) (Reps.none _ _)))); intro v115 w23 ho24 hb hg_ hnew_; clear hg_ hnew_; (first | rw [← Ny114.out] at ho24 | (simp only [Int.reduceToNat] at ho24; rw [← Ny114.out] at ho24)); have n0_ := Aside0.mk (Kd.R_lower ho24 (below_size (by repeat (first | (with_reducible first | exact HB.out | apply below_alloc | apply pw_below_drewN | apply below_drew1) | exact HB.out)))); have n1_ := Aside0.mk (below_step (by repeat (first | (with_reducible first | exact HB.out | apply below_alloc | apply pw_below_drewN | apply below_drew1) | exact HB.out)) hb); clear HB; have HO116 := n0_; have HB := n1_; clear n0_ n1_; clear hb ho24; obtain ⟨Ao25, co25, eo25⟩ := Kd.R_slice HO116.out; subst eo25) | ((with_reducible refine gate_callee (f := 11) rfl ?_); refine goesL_ (some 6) rfl rfl Try.func11 (by kernel_rfl) rfl #[.slice Ao25 y114.length co25, .int .i64 0] rfl (by (try simp only [List.map_toArray, List.map_cons, List.map_nil]); first | done | rfl | (simp only [List.length_drop, List.length_take]; rfl) | ((try rw [KY23.out]); (try rw [KY51.out]); (try rw [KY53.out]); (try rw [KY54.out]); (try rw [KY55.out]); (try rw [KY56.out]); rfl)) ?_; (with_reducible refine (codec_Int.calls k _ _ y114 0 t117 t118 t119 _ ?side1 ?side2 A1.out).mono ?_); (case side1 => repeat (first | exact (Kd.R_reads' HO116.out).2.2 | (with_reducible refine Kd.C_alloc ?_ _) | (with_reducible refine Kd.C_drewN ?_ _) | (with_reducible refine Kd.C_drew ?_))); (case side2 => exact (Kd.R_reads' HO116.out).2.1); rintro e w' ⟨rfl, ⟨nd, rfl⟩⟩; refine ⟨_, rfl, ?_⟩) | ((with_reducible refine gate_callee (f := 10) rfl ?_); refine goesL_ (some 10) rfl rfl Try.func10 (by kernel_rfl) rfl #[.slice none 0 0, .int .i64 (-64)] rfl (by (try simp only [List.map_toArray, List.map_cons, List.map_nil]); first | done | rfl | (simp only [List.length_drop, List.length_take]; rfl) | ((try rw [KY23.out]); (try rw [KY51.out]); (try rw [KY53.out]); (try rw [KY54.out]); (try rw [KY55.out]); (try rw [KY56.out]); rfl)) ?_; (refine (codec_PutInt.calls k _ _ ([] : List Int) (-64) t120 _ ?side1 ?side2 A2.out).mono ?_); (case side1 => exact Kd.C_nil _ _); (case side2 => exact Nat.le_refl _); rintro e w26 ⟨v121, rfl, ho0, hb⟩; refine ⟨_, rfl, ?_⟩; have n0_ := Aside0.mk (Kd.R_elder' (by (with_reducible repeat (first | apply Kd.R_alloc | apply Kd.R_drewN | apply Kd.R_drew)); exact HO116.out) (Kd.R_base ho0) hb); have n1_ := Aside0.mk (Kd.R_lower (Kd.R_new' ho0 (Kd.R_lt (by (with_reducible repeat (first | apply Kd.R_alloc | apply Kd.R_drewN | apply Kd.R_drew)); exact HO116.out))) (below_size (by repeat (first | (with_reducible first | exact HB.out | apply below_alloc | apply pw_below_drewN | apply below_drew1) | exact HB.out)))); have n2_ := Aside0.mk (below_step (by repeat (first | (with_reducible first | exact HB.out | apply below_alloc | apply pw_below_drewN | apply below_drew1) | exact HB.out)) hb); clear HO116; clear HB; have HO116 := n0_; have HO122 := n1_; have HB := n2_; clear n0_ n1_ n2_; (try clear hb); (try clear hb2); (try clear hk); (try clear hi); (try clear ho0); have hcv27 := own_string (P := Try.prog) Try.underlying22 Try.underlying5 Try.underlying9 (Kd.own_of_R HO122.out)) | ((with_reducible refine gate_dst (N := 26) rfl ?_); (try (refine gate_guard (by rfl) ?_; dsimp only)); refine Kd.R_lit (Kd.int .i64) _ 3 ?hg (N := 26) ?hd (xs := ([0, 5, 3] : List Int)) (inner := [.int .i64 0, .int .i64 5, .int .i64 3]) (ok := fun _ => True) (okp := fun _ => True) ?hr ?hp (fun _ hk => hk) trivial (Below.refl _ _) (Nat.le_refl _) (by simp) ?_; (case hd => rfl); (case hg => rfl); (case hr => first | (go_simp; done) | (go_simp; rfl)); (case hp => exact (Reps.one (show Kd.M (Kd.int .i64) _ _ _ 0 [.int .i64 0] from rfl) (Reps.one (show Kd.M (Kd.int .i64) _ _ _ 5 [.int .i64 5] from rfl) (Reps.one (show Kd.M (Kd.int .i64) _ _ _ 3 [.int .i64 3] from rfl) (Reps.none _ _))))); intro v124 w28 ho29 hb hg_ hnew_; clear hg_ hnew_; (first | rw [← Ny123.out] at ho29 | (simp only [Int.reduceToNat] at ho29; rw [← Ny123.out] at ho29)); have n0_ := Aside0.mk (Kd.R_below (by (with_reducible repeat (first | apply Kd.R_alloc | apply Kd.R_drewN | apply Kd.R_drew)); exact HO116.out) hb); have n1_ := Aside0.mk (Kd.R_below (by (with_reducible repeat (first | apply Kd.R_alloc | apply Kd.R_drewN | apply Kd.R_drew)); exact HO122.out) hb); have n2_ := Aside0.mk (Kd.R_lower ho29 (below_size (by repeat (first | (with_reducible first | exact HB.out | apply below_alloc | apply pw_below_drewN | apply below_drew1) | exact HB.out)))); have n3_ := Aside0.mk (below_step (by repeat (first | (with_reducible first | exact HB.out | apply below_alloc | apply pw_below_drewN | apply below_drew1) | exact HB.out)) hb); clear HO116; clear HO122; clear HB; have HO116 := n0_; have HO122 := n1_; have HO125 := n2_; have HB := n3_; clear n0_ n1_ n2_ n3_; clear hb ho29; obtain ⟨Ao30, co30, eo30⟩ := Kd.R_slice HO125.out; subst eo30) | (go_at_call 21; (with_reducible refine (codec_Width.calls k _ _ y123 t126 _ ?side1 ?side2 A7.out).mono ?_); (case side1 => repeat (first | exact (Kd.R_reads' HO125.out).2.2 | (with_reducible refine Kd.C_alloc ?_ _) | (with_reducible refine Kd.C_drewN ?_ _) | (with_reducible refine Kd.C_drew ?_))); (case side2 => exact (Kd.R_reads' HO125.out).2.1); rintro e w31 ⟨rfl, hb⟩; have n0_ := Aside0.mk (Kd.R_below (by (with_reducible repeat (first | apply Kd.R_alloc | apply Kd.R_drewN | apply Kd.R_drew)); exact HO116.out) hb); have n1_ := Aside0.mk (Kd.R_below (by (with_reducible repeat (first | apply Kd.R_alloc | apply Kd.R_drewN | apply Kd.R_drew)); exact HO122.out) hb); have n2_ := Aside0.mk (Kd.R_below (by (with_reducible repeat (first | apply Kd.R_alloc | apply Kd.R_drewN | apply Kd.R_drew)); exact HO125.out) hb); have n3_ := Aside0.mk (below_step (by repeat (first | (with_reducible first | exact HB.out | apply below_alloc | apply pw_below_drewN | apply below_drew1) | exact HB.out)) hb); clear HO116; clear HO122; clear HO125; clear HB; have HO116 := n0_; have HO122 := n1_; have HO125 := n2_; have HB := n3_; clear n0_ n1_ n2_ n3_; (try clear hb); (try clear hb2); (try clear hk); (try clear hi)))
            go_ret
            exact ⟨by first | rfl | (simp [errW_none, errW_some] <;> rfl) | (simp [*, errW_none, errW_some] <;> rfl), by repeat (first | (with_reducible first | exact HB.out | apply below_alloc | apply pw_below_drewN | apply below_drew1) | exact HB.out)⟩
        · rw [if_neg c6] at H
          have c6b0 : (t119 == 0) = false := beq_eq_false_iff_ne.mpr c6
          have c6b1 : (t119 != 0) = true := bne_iff_ne.mpr c6
          obtain rfl := Option.some.inj H
          go_enter Try.func9, Try.ntmps9
          go_wp2_with (first | ((with_reducible refine gate_dst (N := 5) rfl ?_); (try (refine gate_guard (by rfl) ?_; dsimp only)); refine Kd.R_lit (Kd.int .u8) _ 5 ?hg (N := 5) ?hd (xs := ([128, 1] : List Int)) (inner := [.int .u8 128, .int .u8 1]) (ok := fun _ => True) (okp := fun _ => True) ?hr ?hp (fun _ hk => hk) trivial (Below.refl _ _) (Nat.le_refl _) (by simp) ?_; (case hd => rfl); (case hg => rfl); (case hr => first | (go_simp; done) | (go_simp; rfl)); (case hp => exact (Reps.one (show Kd.M (Kd.int .u8) _ _ _ 128 [.int .u8 128] from rfl) (Reps.one (show Kd.M (Kd.int .u8) _ _ _ 1 [.int .u8 1] from rfl) (Reps.none _ _)))); intro v115 w32 ho33 hb hg_ hnew_; clear hg_ hnew_; (first | rw [← Ny114.out] at ho33 | (simp only [Int.reduceToNat] at ho33; rw [← Ny114.out] at ho33)); have n0_ := Aside0.mk (Kd.R_lower ho33 (below_size (by repeat (first | (with_reducible first | exact HB.out | apply below_alloc | apply pw_below_drewN | apply below_drew1) | exact HB.out)))); have n1_ := Aside0.mk (below_step (by repeat (first | (with_reducible first | exact HB.out | apply below_alloc | apply pw_below_drewN | apply below_drew1) | exact HB.out)) hb); clear HB; have HO116 := n0_; have HB := n1_; clear n0_ n1_; clear hb ho33; obtain ⟨Ao34, co34, eo34⟩ := Kd.R_slice HO116.out; subst eo34) | ((with_reducible refine gate_callee (f := 11) rfl ?_); refine goesL_ (some 6) rfl rfl Try.func11 (by kernel_rfl) rfl #[.slice Ao34 y114.length co34, .int .i64 0] rfl (by (try simp only [List.map_toArray, List.map_cons, List.map_nil]); first | done | rfl | (simp only [List.length_drop, List.length_take]; rfl) | ((try rw [KY23.out]); (try rw [KY51.out]); (try rw [KY53.out]); (try rw [KY54.out]); (try rw [KY55.out]); (try rw [KY56.out]); rfl)) ?_; (with_reducible refine (codec_Int.calls k _ _ y114 0 t117 t118 t119 _ ?side1 ?side2 A1.out).mono ?_); (case side1 => repeat (first | exact (Kd.R_reads' HO116.out).2.2 | (with_reducible refine Kd.C_alloc ?_ _) | (with_reducible refine Kd.C_drewN ?_ _) | (with_reducible refine Kd.C_drew ?_))); (case side2 => exact (Kd.R_reads' HO116.out).2.1); rintro e w' ⟨rfl, ⟨nd, rfl⟩⟩; refine ⟨_, rfl, ?_⟩) | ((with_reducible refine gate_callee (f := 10) rfl ?_); refine goesL_ (some 10) rfl rfl Try.func10 (by kernel_rfl) rfl #[.slice none 0 0, .int .i64 (-64)] rfl (by (try simp only [List.map_toArray, List.map_cons, List.map_nil]); first | done | rfl | (simp only [List.length_drop, List.length_take]; rfl) | ((try rw [KY23.out]); (try rw [KY51.out]); (try rw [KY53.out]); (try rw [KY54.out]); (try rw [KY55.out]); (try rw [KY56.out]); rfl)) ?_; (refine (codec_PutInt.calls k _ _ ([] : List Int) (-64) t120 _ ?side1 ?side2 A2.out).mono ?_); (case side1 => exact Kd.C_nil _ _); (case side2 => exact Nat.le_refl _); rintro e w35 ⟨v121, rfl, ho0, hb⟩; refine ⟨_, rfl, ?_⟩; have n0_ := Aside0.mk (Kd.R_elder' (by (with_reducible repeat (first | apply Kd.R_alloc | apply Kd.R_drewN | apply Kd.R_drew)); exact HO116.out) (Kd.R_base ho0) hb); have n1_ := Aside0.mk (Kd.R_lower (Kd.R_new' ho0 (Kd.R_lt (by (with_reducible repeat (first | apply Kd.R_alloc | apply Kd.R_drewN | apply Kd.R_drew)); exact HO116.out))) (below_size (by repeat (first | (with_reducible first | exact HB.out | apply below_alloc | apply pw_below_drewN | apply below_drew1) | exact HB.out)))); have n2_ := Aside0.mk (below_step (by repeat (first | (with_reducible first | exact HB.out | apply below_alloc | apply pw_below_drewN | apply below_drew1) | exact HB.out)) hb); clear HO116; clear HB; have HO116 := n0_; have HO122 := n1_; have HB := n2_; clear n0_ n1_ n2_; (try clear hb); (try clear hb2); (try clear hk); (try clear hi); (try clear ho0); have hcv36 := own_string (P := Try.prog) Try.underlying22 Try.underlying5 Try.underlying9 (Kd.own_of_R HO122.out)))
          go_ret
          exact ⟨by first | rfl | (simp [errW_none, errW_some] <;> rfl) | (simp [*, errW_none, errW_some] <;> rfl), by repeat (first | (with_reducible first | exact HB.out | apply below_alloc | apply pw_below_drewN | apply below_drew1) | exact HB.out)⟩
      · rw [if_neg c5] at H
        have c5b0 : (t118 == 2) = false := beq_eq_false_iff_ne.mpr c5
        have c5b1 : (t118 != 2) = true := bne_iff_ne.mpr c5
        obtain rfl := Option.some.inj H
        go_enter Try.func9, Try.ntmps9
        go_wp2_with (first | ((with_reducible refine gate_dst (N := 5) rfl ?_); (try (refine gate_guard (by rfl) ?_; dsimp only)); refine Kd.R_lit (Kd.int .u8) _ 5 ?hg (N := 5) ?hd (xs := ([128, 1] : List Int)) (inner := [.int .u8 128, .int .u8 1]) (ok := fun _ => True) (okp := fun _ => True) ?hr ?hp (fun _ hk => hk) trivial (Below.refl _ _) (Nat.le_refl _) (by simp) ?_; (case hd => rfl); (case hg => rfl); (case hr => first | (go_simp; done) | (go_simp; rfl)); (case hp => exact (Reps.one (show Kd.M (Kd.int .u8) _ _ _ 128 [.int .u8 128] from rfl) (Reps.one (show Kd.M (Kd.int .u8) _ _ _ 1 [.int .u8 1] from rfl) (Reps.none _ _)))); intro v115 w37 ho38 hb hg_ hnew_; clear hg_ hnew_; (first | rw [← Ny114.out] at ho38 | (simp only [Int.reduceToNat] at ho38; rw [← Ny114.out] at ho38)); have n0_ := Aside0.mk (Kd.R_lower ho38 (below_size (by repeat (first | (with_reducible first | exact HB.out | apply below_alloc | apply pw_below_drewN | apply below_drew1) | exact HB.out)))); have n1_ := Aside0.mk (below_step (by repeat (first | (with_reducible first | exact HB.out | apply below_alloc | apply pw_below_drewN | apply below_drew1) | exact HB.out)) hb); clear HB; have HO116 := n0_; have HB := n1_; clear n0_ n1_; clear hb ho38; obtain ⟨Ao39, co39, eo39⟩ := Kd.R_slice HO116.out; subst eo39) | ((with_reducible refine gate_callee (f := 11) rfl ?_); refine goesL_ (some 6) rfl rfl Try.func11 (by kernel_rfl) rfl #[.slice Ao39 y114.length co39, .int .i64 0] rfl (by (try simp only [List.map_toArray, List.map_cons, List.map_nil]); first | done | rfl | (simp only [List.length_drop, List.length_take]; rfl) | ((try rw [KY23.out]); (try rw [KY51.out]); (try rw [KY53.out]); (try rw [KY54.out]); (try rw [KY55.out]); (try rw [KY56.out]); rfl)) ?_; (with_reducible refine (codec_Int.calls k _ _ y114 0 t117 t118 t119 _ ?side1 ?side2 A1.out).mono ?_); (case side1 => repeat (first | exact (Kd.R_reads' HO116.out).2.2 | (with_reducible refine Kd.C_alloc ?_ _) | (with_reducible refine Kd.C_drewN ?_ _) | (with_reducible refine Kd.C_drew ?_))); (case side2 => exact (Kd.R_reads' HO116.out).2.1); rintro e w' ⟨rfl, ⟨nd, rfl⟩⟩; refine ⟨_, rfl, ?_⟩) | ((with_reducible refine gate_callee (f := 10) rfl ?_); refine goesL_ (some 10) rfl rfl Try.func10 (by kernel_rfl) rfl #[.slice none 0 0, .int .i64 (-64)] rfl (by (try simp only [List.map_toArray, List.map_cons, List.map_nil]); first | done | rfl | (simp only [List.length_drop, List.length_take]; rfl) | ((try rw [KY23.out]); (try rw [KY51.out]); (try rw [KY53.out]); (try rw [KY54.out]); (try rw [KY55.out]); (try rw [KY56.out]); rfl)) ?_; (refine (codec_PutInt.calls k _ _ ([] : List Int) (-64) t120 _ ?side1 ?side2 A2.out).mono ?_); (case side1 => exact Kd.C_nil _ _); (case side2 => exact Nat.le_refl _); rintro e w40 ⟨v121, rfl, ho0, hb⟩; refine ⟨_, rfl, ?_⟩; have n0_ := Aside0.mk (Kd.R_elder' (by (with_reducible repeat (first | apply Kd.R_alloc | apply Kd.R_drewN | apply Kd.R_drew)); exact HO116.out) (Kd.R_base ho0) hb); have n1_ := Aside0.mk (Kd.R_lower (Kd.R_new' ho0 (Kd.R_lt (by (with_reducible repeat (first | apply Kd.R_alloc | apply Kd.R_drewN | apply Kd.R_drew)); exact HO116.out))) (below_size (by repeat (first | (with_reducible first | exact HB.out | apply below_alloc | apply pw_below_drewN | apply below_drew1) | exact HB.out)))); have n2_ := Aside0.mk (below_step (by repeat (first | (with_reducible first | exact HB.out | apply below_alloc | apply pw_below_drewN | apply below_drew1) | exact HB.out)) hb); clear HO116; clear HB; have HO116 := n0_; have HO122 := n1_; have HB := n2_; clear n0_ n1_ n2_; (try clear hb); (try clear hb2); (try clear hk); (try clear hi); (try clear ho0); have hcv41 := own_string (P := Try.prog) Try.underlying22 Try.underlying5 Try.underlying9 (Kd.own_of_R HO122.out)))
        go_ret
        exact ⟨by first | rfl | (simp [errW_none, errW_some] <;> rfl) | (simp [*, errW_none, errW_some] <;> rfl), by repeat (first | (with_reducible first | exact HB.out | apply below_alloc | apply pw_below_drewN | apply below_drew1) | exact HB.out)⟩
    · rw [if_neg c4] at H
      have c4b0 : (t117 == 64) = false := beq_eq_false_iff_ne.mpr c4
      have c4b1 : (t117 != 64) = true := bne_iff_ne.mpr c4
      obtain rfl := Option.some.inj H
      go_enter Try.func9, Try.ntmps9
      go_wp2_with (first | ((with_reducible refine gate_dst (N := 5) rfl ?_); (try (refine gate_guard (by rfl) ?_; dsimp only)); refine Kd.R_lit (Kd.int .u8) _ 5 ?hg (N := 5) ?hd (xs := ([128, 1] : List Int)) (inner := [.int .u8 128, .int .u8 1]) (ok := fun _ => True) (okp := fun _ => True) ?hr ?hp (fun _ hk => hk) trivial (Below.refl _ _) (Nat.le_refl _) (by simp) ?_; (case hd => rfl); (case hg => rfl); (case hr => first | (go_simp; done) | (go_simp; rfl)); (case hp => exact (Reps.one (show Kd.M (Kd.int .u8) _ _ _ 128 [.int .u8 128] from rfl) (Reps.one (show Kd.M (Kd.int .u8) _ _ _ 1 [.int .u8 1] from rfl) (Reps.none _ _)))); intro v115 w42 ho43 hb hg_ hnew_; clear hg_ hnew_; (first | rw [← Ny114.out] at ho43 | (simp only [Int.reduceToNat] at ho43; rw [← Ny114.out] at ho43)); have n0_ := Aside0.mk (Kd.R_lower ho43 (below_size (by repeat (first | (with_reducible first | exact HB.out | apply below_alloc | apply pw_below_drewN | apply below_drew1) | exact HB.out)))); have n1_ := Aside0.mk (below_step (by repeat (first | (with_reducible first | exact HB.out | apply below_alloc | apply pw_below_drewN | apply below_drew1) | exact HB.out)) hb); clear HB; have HO116 := n0_; have HB := n1_; clear n0_ n1_; clear hb ho43; obtain ⟨Ao44, co44, eo44⟩ := Kd.R_slice HO116.out; subst eo44) | ((with_reducible refine gate_callee (f := 11) rfl ?_); refine goesL_ (some 6) rfl rfl Try.func11 (by kernel_rfl) rfl #[.slice Ao44 y114.length co44, .int .i64 0] rfl (by (try simp only [List.map_toArray, List.map_cons, List.map_nil]); first | done | rfl | (simp only [List.length_drop, List.length_take]; rfl) | ((try rw [KY23.out]); (try rw [KY51.out]); (try rw [KY53.out]); (try rw [KY54.out]); (try rw [KY55.out]); (try rw [KY56.out]); rfl)) ?_; (with_reducible refine (codec_Int.calls k _ _ y114 0 t117 t118 t119 _ ?side1 ?side2 A1.out).mono ?_); (case side1 => repeat (first | exact (Kd.R_reads' HO116.out).2.2 | (with_reducible refine Kd.C_alloc ?_ _) | (with_reducible refine Kd.C_drewN ?_ _) | (with_reducible refine Kd.C_drew ?_))); (case side2 => exact (Kd.R_reads' HO116.out).2.1); rintro e w' ⟨rfl, ⟨nd, rfl⟩⟩; refine ⟨_, rfl, ?_⟩) | ((with_reducible refine gate_callee (f := 10) rfl ?_); refine goesL_ (some 10) rfl rfl Try.func10 (by kernel_rfl) rfl #[.slice none 0 0, .int .i64 (-64)] rfl (by (try simp only [List.map_toArray, List.map_cons, List.map_nil]); first | done | rfl | (simp only [List.length_drop, List.length_take]; rfl) | ((try rw [KY23.out]); (try rw [KY51.out]); (try rw [KY53.out]); (try rw [KY54.out]); (try rw [KY55.out]); (try rw [KY56.out]); rfl)) ?_; (refine (codec_PutInt.calls k _ _ ([] : List Int) (-64) t120 _ ?side1 ?side2 A2.out).mono ?_); (case side1 => exact Kd.C_nil _ _); (case side2 => exact Nat.le_refl _); rintro e w45 ⟨v121, rfl, ho0, hb⟩; refine ⟨_, rfl, ?_⟩; have n0_ := Aside0.mk (Kd.R_elder' (by (with_reducible repeat (first | apply Kd.R_alloc | apply Kd.R_drewN | apply Kd.R_drew)); exact HO116.out) (Kd.R_base ho0) hb); have n1_ := Aside0.mk (Kd.R_lower (Kd.R_new' ho0 (Kd.R_lt (by (with_reducible repeat (first | apply Kd.R_alloc | apply Kd.R_drewN | apply Kd.R_drew)); exact HO116.out))) (below_size (by repeat (first | (with_reducible first | exact HB.out | apply below_alloc | apply pw_below_drewN | apply below_drew1) | exact HB.out)))); have n2_ := Aside0.mk (below_step (by repeat (first | (with_reducible first | exact HB.out | apply below_alloc | apply pw_below_drewN | apply below_drew1) | exact HB.out)) hb); clear HO116; clear HB; have HO116 := n0_; have HO122 := n1_; have HB := n2_; clear n0_ n1_ n2_; (try clear hb); (try clear hb2); (try clear hk); (try clear hi); (try clear ho0); have hcv46 := own_string (P := Try.prog) Try.underlying22 Try.underlying5 Try.underlying9 (Kd.own_of_R HO122.out)))
      go_ret
      exact ⟨by first | rfl | (simp [errW_none, errW_some] <;> rfl) | (simp [*, errW_none, errW_some] <;> rfl), by repeat (first | (with_reducible first | exact HB.out | apply below_alloc | apply pw_below_drewN | apply below_drew1) | exact HB.out)⟩
  · rw [if_neg c3] at H
    have c3b0 : ((strOfNums t120).toList == ([127] : List UInt8)) = false := beq_eq_false_iff_ne.mpr c3
    have c3b1 : ((strOfNums t120).toList != ([127] : List UInt8)) = true := bne_iff_ne.mpr c3
    obtain rfl := Option.some.inj H
    go_enter Try.func9, Try.ntmps9
    go_wp2_with (first | ((with_reducible refine gate_dst (N := 5) rfl ?_); (try (refine gate_guard (by rfl) ?_; dsimp only)); refine Kd.R_lit (Kd.int .u8) _ 5 ?hg (N := 5) ?hd (xs := ([128, 1] : List Int)) (inner := [.int .u8 128, .int .u8 1]) (ok := fun _ => True) (okp := fun _ => True) ?hr ?hp (fun _ hk => hk) trivial (Below.refl _ _) (Nat.le_refl _) (by simp) ?_; (case hd => rfl); (case hg => rfl); (case hr => first | (go_simp; done) | (go_simp; rfl)); (case hp => exact (Reps.one (show Kd.M (Kd.int .u8) _ _ _ 128 [.int .u8 128] from rfl) (Reps.one (show Kd.M (Kd.int .u8) _ _ _ 1 [.int .u8 1] from rfl) (Reps.none _ _)))); intro v115 w47 ho48 hb hg_ hnew_; clear hg_ hnew_; (first | rw [← Ny114.out] at ho48 | (simp only [Int.reduceToNat] at ho48; rw [← Ny114.out] at ho48)); have n0_ := Aside0.mk (Kd.R_lower ho48 (below_size (by repeat (first | (with_reducible first | exact HB.out | apply below_alloc | apply pw_below_drewN | apply below_drew1) | exact HB.out)))); have n1_ := Aside0.mk (below_step (by repeat (first | (with_reducible first | exact HB.out | apply below_alloc | apply pw_below_drewN | apply below_drew1) | exact HB.out)) hb); clear HB; have HO116 := n0_; have HB := n1_; clear n0_ n1_; clear hb ho48; obtain ⟨Ao49, co49, eo49⟩ := Kd.R_slice HO116.out; subst eo49) | ((with_reducible refine gate_callee (f := 11) rfl ?_); refine goesL_ (some 6) rfl rfl Try.func11 (by kernel_rfl) rfl #[.slice Ao49 y114.length co49, .int .i64 0] rfl (by (try simp only [List.map_toArray, List.map_cons, List.map_nil]); first | done | rfl | (simp only [List.length_drop, List.length_take]; rfl) | ((try rw [KY23.out]); (try rw [KY51.out]); (try rw [KY53.out]); (try rw [KY54.out]); (try rw [KY55.out]); (try rw [KY56.out]); rfl)) ?_; (with_reducible refine (codec_Int.calls k _ _ y114 0 t117 t118 t119 _ ?side1 ?side2 A1.out).mono ?_); (case side1 => repeat (first | exact (Kd.R_reads' HO116.out).2.2 | (with_reducible refine Kd.C_alloc ?_ _) | (with_reducible refine Kd.C_drewN ?_ _) | (with_reducible refine Kd.C_drew ?_))); (case side2 => exact (Kd.R_reads' HO116.out).2.1); rintro e w' ⟨rfl, ⟨nd, rfl⟩⟩; refine ⟨_, rfl, ?_⟩) | ((with_reducible refine gate_callee (f := 10) rfl ?_); refine goesL_ (some 10) rfl rfl Try.func10 (by kernel_rfl) rfl #[.slice none 0 0, .int .i64 (-64)] rfl (by (try simp only [List.map_toArray, List.map_cons, List.map_nil]); first | done | rfl | (simp only [List.length_drop, List.length_take]; rfl) | ((try rw [KY23.out]); (try rw [KY51.out]); (try rw [KY53.out]); (try rw [KY54.out]); (try rw [KY55.out]); (try rw [KY56.out]); rfl)) ?_; (refine (codec_PutInt.calls k _ _ ([] : List Int) (-64) t120 _ ?side1 ?side2 A2.out).mono ?_); (case side1 => exact Kd.C_nil _ _); (case side2 => exact Nat.le_refl _); rintro e w50 ⟨v121, rfl, ho0, hb⟩; refine ⟨_, rfl, ?_⟩; have n0_ := Aside0.mk (Kd.R_elder' (by (with_reducible repeat (first | apply Kd.R_alloc | apply Kd.R_drewN | apply Kd.R_drew)); exact HO116.out) (Kd.R_base ho0) hb); have n1_ := Aside0.mk (Kd.R_lower (Kd.R_new' ho0 (Kd.R_lt (by (with_reducible repeat (first | apply Kd.R_alloc | apply Kd.R_drewN | apply Kd.R_drew)); exact HO116.out))) (below_size (by repeat (first | (with_reducible first | exact HB.out | apply below_alloc | apply pw_below_drewN | apply below_drew1) | exact HB.out)))); have n2_ := Aside0.mk (below_step (by repeat (first | (with_reducible first | exact HB.out | apply below_alloc | apply pw_below_drewN | apply below_drew1) | exact HB.out)) hb); clear HO116; clear HB; have HO116 := n0_; have HO122 := n1_; have HB := n2_; clear n0_ n1_ n2_; (try clear hb); (try clear hb2); (try clear hk); (try clear hi); (try clear ho0); have hcv51 := own_string (P := Try.prog) Try.underlying22 Try.underlying5 Try.underlying9 (Kd.own_of_R HO122.out)))
    go_ret
    exact ⟨by first | rfl | (simp [errW_none, errW_some] <;> rfl) | (simp [*, errW_none, errW_some] <;> rfl), by repeat (first | (with_reducible first | exact HB.out | apply below_alloc | apply pw_below_drewN | apply below_drew1) | exact HB.out)⟩

/-! ### shapesearchlaw03_CodecBack: function 3 -/
mutual
def shapesearchlaw03_CodecBack.j0 : Nat → Int → Int → List Int → List Int → Bool → Option (Bool)
  | 0, _, _, _, _, _ => none
  | k + 1, x0, x1, x2, x3, x26 => if x26 = true then ((shapesearchlaw03_awake.f k).bind fun t131 => (some t131)) else ((codec_PutInt.f k x2 x0).bind fun t132 => ((codec_PutInt.f k t132 x1).bind fun t135 => (if (t135.length : Int) < (wrap64 ((x2.length : Int) + 2)) then (shapesearchlaw03_CodecBack.j1 k x0 x1 x2 x3 t135 true) else (if (t135.length : Int) > (wrap64 ((x2.length : Int) + 20)) then (shapesearchlaw03_CodecBack.j1 k x0 x1 x2 x3 t135 true) else (if 0 ≤ (x2.length : Int) then (if (x2.length : Int) ≤ (t135.length : Int) then (shapesearchlaw03_CodecBack.j1 k x0 x1 x2 x3 t135 ((strOfNums (t135.take ((x2.length : Int) : Int).toNat)).toList != (strOfNums x2).toList)) else (none)) else (none))))))
def shapesearchlaw03_CodecBack.j1 : Nat → Int → Int → List Int → List Int → List Int → Bool → Option (Bool)
  | 0, _, _, _, _, _, _ => none
  | k + 1, x0, x1, x2, x3, x9, x56 => if x56 = true then (some false) else ((some (([] : List Int) : List Int)).bind fun y142 => (if y142.length + x9.length < 140737488355328 then ((some (y142 ++ x9 : List Int)).bind fun y145 => (if y145.length + x3.length < 140737488355328 then ((codec_Int.f k (y145 ++ x3) (x2.length : Int)).bind fun bt151 => (if bt151.2.2 = 0 then (if bt151.1 = x0 then (if bt151.2.1 ≤ (x2.length : Int) then (shapesearchlaw03_CodecBack.j2 k x1 x2 x9 bt151.2.1 true) else (shapesearchlaw03_CodecBack.j2 k x1 x2 x9 bt151.2.1 (decide (bt151.2.1 ≥ (x9.length : Int))))) else (shapesearchlaw03_CodecBack.j2 k x1 x2 x9 bt151.2.1 true)) else (shapesearchlaw03_CodecBack.j2 k x1 x2 x9 bt151.2.1 true))) else (none))) else (none)))
def shapesearchlaw03_CodecBack.j2 : Nat → Int → List Int → List Int → Int → Bool → Option (Bool)
  | 0, _, _, _, _, _ => none
  | k + 1, x1, x2, x9, x11, x87 => if x87 = true then (some false) else ((codec_Int.f k x9 x11).bind fun bt154 => (if 0 ≤ (wrap64 (x11 - 1)) then (if (wrap64 (x11 - 1)) ≤ (x9.length : Int) then ((codec_Int.f k (x9.take ((wrap64 (x11 - 1)) : Int).toNat) (x2.length : Int)).bind fun bt161 => (if bt154.2.2 = 0 then (if bt154.1 = x1 then (if bt154.2.1 = (x9.length : Int) then (if bt161.2.2 = 2 then ((shapesearchlaw03_awake.f k).bind fun t164 => (some t164)) else (some false)) else (some false)) else (some false)) else (some false))) else (none)) else (none)))
end
def shapesearchlaw03_CodecBack.f (k : Nat) (a0 : Int) (a1 : Int) (l2 : List Int) (l3 : List Int) : Option (Bool) := if (l2.length : Int) > 100 then (shapesearchlaw03_CodecBack.j0 k a0 a1 l2 l3 true) else (shapesearchlaw03_CodecBack.j0 k a0 a1 l2 l3 (decide ((l3.length : Int) > 100)))
theorem shapesearchlaw03_CodecBack.mono_l : ∀ k, (∀ y0 y1 y2 y3 y4, LeO (shapesearchlaw03_CodecBack.j0 k y0 y1 y2 y3 y4) (shapesearchlaw03_CodecBack.j0 (k + 1) y0 y1 y2 y3 y4)) ∧ (∀ y0 y1 y2 y3 y4 y5, LeO (shapesearchlaw03_CodecBack.j1 k y0 y1 y2 y3 y4 y5) (shapesearchlaw03_CodecBack.j1 (k + 1) y0 y1 y2 y3 y4 y5)) ∧ (∀ y0 y1 y2 y3 y4, LeO (shapesearchlaw03_CodecBack.j2 k y0 y1 y2 y3 y4) (shapesearchlaw03_CodecBack.j2 (k + 1) y0 y1 y2 y3 y4))
  | 0 => ⟨fun _ _ _ _ _ r h => by simp [shapesearchlaw03_CodecBack.j0] at h, fun _ _ _ _ _ _ r h => by simp [shapesearchlaw03_CodecBack.j1] at h, fun _ _ _ _ _ r h => by simp [shapesearchlaw03_CodecBack.j2] at h⟩
  | k + 1 => by
    obtain ⟨ih0, ih1, ih2⟩ := shapesearchlaw03_CodecBack.mono_l k
    refine ⟨?_, ?_, ?_⟩
    · intro y0 y1 y2 y3 y4
      unfold shapesearchlaw03_CodecBack.j0
      repeat' first
      | (with_reducible exact ih0 _ _ _ _ _)
      | (with_reducible exact ih1 _ _ _ _ _ _)
      | (with_reducible exact ih2 _ _ _ _ _)
      | (with_reducible exact codec_Int.mono _ _ _)
      | (with_reducible exact codec_PutInt.mono _ _ _)
      | (with_reducible exact shapesearchlaw03_awake.mono _)
      | (with_reducible exact LeO.refl _)
      | (with_reducible exact LeO.none _)
      | (with_reducible refine LeO.ite ?_ ?_)
      | (with_reducible refine LeO.bind ?_ (fun _ => ?_))
      | exact ih0 _ _ _ _ _
      | exact ih1 _ _ _ _ _ _
      | exact ih2 _ _ _ _ _
      | exact codec_Int.mono _ _ _
      | exact codec_PutInt.mono _ _ _
      | exact shapesearchlaw03_awake.mono _
      | exact LeO.none _
      | refine LeO.ite ?_ ?_
      | refine LeO.bind ?_ (fun _ => ?_)
    · intro y0 y1 y2 y3 y4 y5
      unfold shapesearchlaw03_CodecBack.j1
      repeat' first
      | (with_reducible exact ih0 _ _ _ _ _)
      | (with_reducible exact ih1 _ _ _ _ _ _)
      | (with_reducible exact ih2 _ _ _ _ _)
      | (with_reducible exact codec_Int.mono _ _ _)
      | (with_reducible exact codec_PutInt.mono _ _ _)
      | (with_reducible exact shapesearchlaw03_awake.mono _)
      | (with_reducible exact LeO.refl _)
      | (with_reducible exact LeO.none _)
      | (with_reducible refine LeO.ite ?_ ?_)
      | (with_reducible refine LeO.bind ?_ (fun _ => ?_))
      | exact ih0 _ _ _ _ _
      | exact ih1 _ _ _ _ _ _
      | exact ih2 _ _ _ _ _
      | exact codec_Int.mono _ _ _
      | exact codec_PutInt.mono _ _ _
      | exact shapesearchlaw03_awake.mono _
      | exact LeO.none _
      | refine LeO.ite ?_ ?_
      | refine LeO.bind ?_ (fun _ => ?_)
    · intro y0 y1 y2 y3 y4
      unfold shapesearchlaw03_CodecBack.j2
      repeat' first
      | (with_reducible exact ih0 _ _ _ _ _)
      | (with_reducible exact ih1 _ _ _ _ _ _)
      | (with_reducible exact ih2 _ _ _ _ _)
      | (with_reducible exact codec_Int.mono _ _ _)
      | (with_reducible exact codec_PutInt.mono _ _ _)
      | (with_reducible exact shapesearchlaw03_awake.mono _)
      | (with_reducible exact LeO.refl _)
      | (with_reducible exact LeO.none _)
      | (with_reducible refine LeO.ite ?_ ?_)
      | (with_reducible refine LeO.bind ?_ (fun _ => ?_))
      | exact ih0 _ _ _ _ _
      | exact ih1 _ _ _ _ _ _
      | exact ih2 _ _ _ _ _
      | exact codec_Int.mono _ _ _
      | exact codec_PutInt.mono _ _ _
      | exact shapesearchlaw03_awake.mono _
      | exact LeO.none _
      | refine LeO.ite ?_ ?_
      | refine LeO.bind ?_ (fun _ => ?_)
theorem shapesearchlaw03_CodecBack.mono : ∀ a0 a1 a2 a3 k, LeO (shapesearchlaw03_CodecBack.f k a0 a1 a2 a3) (shapesearchlaw03_CodecBack.f (k + 1) a0 a1 a2 a3) := by
  intro a0 a1 a2 a3 k
  obtain ⟨ih0, ih1, ih2⟩ := shapesearchlaw03_CodecBack.mono_l k
  unfold shapesearchlaw03_CodecBack.f
  repeat' first
      | (with_reducible exact ih0 _ _ _ _ _)
      | (with_reducible exact ih1 _ _ _ _ _ _)
      | (with_reducible exact ih2 _ _ _ _ _)
      | (with_reducible exact codec_Int.mono _ _ _)
      | (with_reducible exact codec_PutInt.mono _ _ _)
      | (with_reducible exact shapesearchlaw03_awake.mono _)
      | (with_reducible exact LeO.refl _)
      | (with_reducible exact LeO.none _)
      | (with_reducible refine LeO.ite ?_ ?_)
      | (with_reducible refine LeO.bind ?_ (fun _ => ?_))
      | exact ih0 _ _ _ _ _
      | exact ih1 _ _ _ _ _ _
      | exact ih2 _ _ _ _ _
      | exact codec_Int.mono _ _ _
      | exact codec_PutInt.mono _ _ _
      | exact shapesearchlaw03_awake.mono _
      | exact LeO.none _
      | refine LeO.ite ?_ ?_
      | refine LeO.bind ?_ (fun _ => ?_)
set_option maxHeartbeats 8000000 in
set_option maxRecDepth 100000 in
theorem shapesearchlaw03_CodecBack.calls (k : Nat) (a0 : Int) (a1 : Int) (A2 : Option Addr) (c2 : Nat) (l2 : List Int) (A3 : Option Addr) (c3 : Nat) (l3 : List Int) (r : Bool) (w : World) (hr2 : Kd.C (Kd.int .u8) w A2 l2.length l2) (hc2 : l2.length ≤ c2) (hr3 : Kd.C (Kd.int .u8) w A3 l3.length l3) (hc3 : l3.length ≤ c3) (h : shapesearchlaw03_CodecBack.f k a0 a1 l2 l3 = some r) :
    Calls Try.prog 3 #[.int .i64 a0, .int .i64 a1, .slice A2 l2.length c2, .slice A3 l3.length c3] w fun e w' => e = .returned (.bool r) ∧ Below w.heap.size w w' := by
  have HR2 := Aside0.mk hr2
  have HC2 := Aside0.mk hc2
  clear hr2 hc2
  have HR3 := Aside0.mk hr3
  have HC3 := Aside0.mk hc3
  clear hr3 hc3
  have HB := Aside0.mk (Below.refl w.heap.size w)
  have H : (if (l2.length : Int) > 100 then (shapesearchlaw03_CodecBack.j0 k a0 a1 l2 l3 true) else (shapesearchlaw03_CodecBack.j0 k a0 a1 l2 l3 (decide ((l3.length : Int) > 100)))) = some r := h
  clear h
  have HC5 := Aside0.mk H
  clear H
  go_enter Try.func3, Try.ntmps3
  go_upto_region 1 with (fail)
  repeat (go_quiet (fail); go_upto_region 1 with (fail))
  go_cut [26] (fun v26 wc => ∃ (kq : Nat) (x26_4 : Bool), v26 = .bool x26_4 ∧ Aside0 (shapesearchlaw03_CodecBack.j0 kq a0 a1 l2 l3 x26_4 = some r) ∧ Aside0 (kq ≤ k) ∧ Aside0 (Below w.heap.size w wc))
  case first =>
    have H := HC5.out
    clear HC5
    by_cases c6 : (l2.length : Int) > 100
    · rw [if_pos c6] at H
      have c6b0 : decide (100 < (l2.length : Int)) = true := decide_eq_true c6
      have c6b1 : decide (100 < l2.length) = true := decide_eq_true (by omega)
      clear c6
      (first | rw [c6b0] | (simp only [i64_w, i32_w]; rw [c6b0]) | skip)
      have H' := Aside0.mk H
      clear H
      go_wp2
      repeat (go_quiet (fail); try go_wp2)
      go_meet
      case rel => exact ⟨_, (true), (by first | rfl | (simp; done) | (simp [*]; done)), H', ⟨by first | omega | exact Nat.le_refl _⟩, ⟨by repeat (first | (with_reducible first | exact HB.out | apply below_alloc | apply pw_below_drewN | apply below_drew1) | exact HB.out)⟩⟩
    · rw [if_neg c6] at H
      have c6b0 : decide (100 < (l2.length : Int)) = false := decide_eq_false c6
      have c6b1 : decide (100 < l2.length) = false := decide_eq_false (by omega)
      clear c6
      (first | rw [c6b0] | (simp only [i64_w, i32_w]; rw [c6b0]) | skip)
      have H' := Aside0.mk H
      clear H
      go_wp2
      repeat (go_quiet (fail); try go_wp2)
      go_meet
      case rel => exact ⟨_, (decide ((l3.length : Int) > 100)), (by first | rfl | (simp; done) | (simp [*]; done)), H', ⟨by first | omega | exact Nat.le_refl _⟩, ⟨by repeat (first | (with_reducible first | exact HB.out | apply below_alloc | apply pw_below_drewN | apply below_drew1) | exact HB.out)⟩⟩
  case rest =>
    clear HC5
    try clear c2
    try clear p2
    try clear c3
    try clear c6
    try clear c6b0
    try clear c6b1
    obtain ⟨kq, x26_4, rfl, HA, HJ4, HB⟩ := hcut
    cases kq with
    | zero => exact absurd HA.out (by simp [shapesearchlaw03_CodecBack.j0])
    | succ kj4 =>
      have H := HA.out
      clear HA
      simp only [shapesearchlaw03_CodecBack.j0] at H
      by_cases c7 : x26_4 = true
      · subst c7
        have H1 : ((shapesearchlaw03_awake.f kj4).bind fun t131 => (some t131)) = some r := by rw [if_pos rfl] at H; exact H
        clear H
        have H := H1
        clear H1
        replace H := Option.bind_eq_some_iff.mp H
        obtain ⟨t131, A80, H⟩ := H
        replace H : (some t131) = some r := H
        have A8 := Aside0.mk A80
        clear A80
        obtain rfl := Option.some.inj H
        go_wp2_with (first | (go_at_call 9; (with_reducible refine (shapesearchlaw03_awake.calls kj4  t131 _ A8.out).mono ?_); rintro e w9 ⟨rfl, hb⟩; have n0_ := Aside0.mk (below_step (by repeat (first | (with_reducible first | exact HB.out | apply below_alloc | apply pw_below_drewN | apply below_drew1) | exact HB.out)) hb); clear HB; have HB := n0_; clear n0_; (try clear hb); (try clear hb2); (try clear hk); (try clear hi)))
        repeat (go_quiet (first | (go_at_call 9; (with_reducible refine (shapesearchlaw03_awake.calls kj4  t131 _ A8.out).mono ?_); rintro e w9 ⟨rfl, hb⟩; have n0_ := Aside0.mk (below_step (by repeat (first | (with_reducible first | exact HB.out | apply below_alloc | apply pw_below_drewN | apply below_drew1) | exact HB.out)) hb); clear HB; have HB := n0_; clear n0_; (try clear hb); (try clear hb2); (try clear hk); (try clear hi))); try go_wp2_with (first | (go_at_call 9; (with_reducible refine (shapesearchlaw03_awake.calls kj4  t131 _ A8.out).mono ?_); rintro e w9 ⟨rfl, hb⟩; have n0_ := Aside0.mk (below_step (by repeat (first | (with_reducible first | exact HB.out | apply below_alloc | apply pw_below_drewN | apply below_drew1) | exact HB.out)) hb); clear HB; have HB := n0_; clear n0_; (try clear hb); (try clear hb2); (try clear hk); (try clear hi))))
        go_ret
        exact ⟨by first | rfl | (simp [errW_none, errW_some] <;> rfl) | (simp [*, errW_none, errW_some] <;> rfl), by repeat (first | (with_reducible first | exact HB.out | apply below_alloc | apply pw_below_drewN | apply below_drew1) | exact HB.out)⟩
      · replace c7 := Bool.eq_false_iff.mpr c7
        subst c7
        have H1 : ((codec_PutInt.f kj4 l2 a0).bind fun t132 => ((codec_PutInt.f kj4 t132 a1).bind fun t135 => (if (t135.length : Int) < (wrap64 ((l2.length : Int) + 2)) then (shapesearchlaw03_CodecBack.j1 kj4 a0 a1 l2 l3 t135 true) else (if (t135.length : Int) > (wrap64 ((l2.length : Int) + 20)) then (shapesearchlaw03_CodecBack.j1 kj4 a0 a1 l2 l3 t135 true) else (if 0 ≤ (l2.length : Int) then (if (l2.length : Int) ≤ (t135.length : Int) then (shapesearchlaw03_CodecBack.j1 kj4 a0 a1 l2 l3 t135 ((strOfNums (t135.take ((l2.length : Int) : Int).toNat)).toList != (strOfNums l2).toList)) else (none)) else (none)))))) = some r := by rw [if_neg (show ¬ (false = true) by decide)] at H; exact H
        clear H
        have H := H1
        clear H1
        replace H := Option.bind_eq_some_iff.mp H
        obtain ⟨t132, A100, H⟩ := H
        replace H : ((codec_PutInt.f kj4 t132 a1).bind fun t135 => (if (t135.length : Int) < (wrap64 ((l2.length : Int) + 2)) then (shapesearchlaw03_CodecBack.j1 kj4 a0 a1 l2 l3 t135 true) else (if (t135.length : Int) > (wrap64 ((l2.length : Int) + 20)) then (shapesearchlaw03_CodecBack.j1 kj4 a0 a1 l2 l3 t135 true) else (if 0 ≤ (l2.length : Int) then (if (l2.length : Int) ≤ (t135.length : Int) then (shapesearchlaw03_CodecBack.j1 kj4 a0 a1 l2 l3 t135 ((strOfNums (t135.take ((l2.length : Int) : Int).toNat)).toList != (strOfNums l2).toList)) else (none)) else (none))))) = some r := H
        have A10 := Aside0.mk A100
        clear A100
        replace H := Option.bind_eq_some_iff.mp H
        obtain ⟨t135, A110, H⟩ := H
        replace H : (if (t135.length : Int) < (wrap64 ((l2.length : Int) + 2)) then (shapesearchlaw03_CodecBack.j1 kj4 a0 a1 l2 l3 t135 true) else (if (t135.length : Int) > (wrap64 ((l2.length : Int) + 20)) then (shapesearchlaw03_CodecBack.j1 kj4 a0 a1 l2 l3 t135 true) else (if 0 ≤ (l2.length : Int) then (if (l2.length : Int) ≤ (t135.length : Int) then (shapesearchlaw03_CodecBack.j1 kj4 a0 a1 l2 l3 t135 ((strOfNums (t135.take ((l2.length : Int) : Int).toNat)).toList != (strOfNums l2).toList)) else (none)) else (none)))) = some r := H
        have A11 := Aside0.mk A110
        clear A110
        have HC12 := Aside0.mk H
        clear H
        go_upto_region 4 with (first | (go_at_call 10; (with_reducible refine (codec_PutInt.calls kj4 _ _ l2 a0 t132 _ ?side1 ?side2 A10.out).mono ?_); (case side1 => repeat (first | exact (Kd.C_below HR2.out HB.out) | (with_reducible refine Kd.C_alloc ?_ _) | (with_reducible refine Kd.C_drewN ?_ _) | (with_reducible refine Kd.C_drew ?_))); (case side2 => exact HC2.out); rintro e w13 ⟨v133, rfl, ho0, hb⟩; have n0_ := Aside0.mk (Kd.R_lower ho0 (below_size (by repeat (first | (with_reducible first | exact HB.out | apply below_alloc | apply pw_below_drewN | apply below_drew1) | exact HB.out)))); have n1_ := Aside0.mk (below_step (by repeat (first | (with_reducible first | exact HB.out | apply below_alloc | apply pw_below_drewN | apply below_drew1) | exact HB.out)) hb); clear HB; have HO134 := n0_; have HB := n1_; clear n0_ n1_; (try clear hb); (try clear hb2); (try clear hk); (try clear hi); (try clear ho0); obtain ⟨Ao14, co14, eo14⟩ := Kd.R_slice HO134.out; subst eo14) | (go_at_call 10; (with_reducible refine (codec_PutInt.calls kj4 _ _ t132 a1 t135 _ ?side1 ?side2 A11.out).mono ?_); (case side1 => repeat (first | exact (Kd.R_reads' HO134.out).2.2 | (with_reducible refine Kd.C_alloc ?_ _) | (with_reducible refine Kd.C_drewN ?_ _) | (with_reducible refine Kd.C_drew ?_))); (case side2 => exact (Kd.R_reads' HO134.out).2.1); rintro e w15 ⟨v136, rfl, ho0, hb⟩; have n0_ := Aside0.mk (Kd.R_elder' (by (with_reducible repeat (first | apply Kd.R_alloc | apply Kd.R_drewN | apply Kd.R_drew)); exact HO134.out) (Kd.R_base ho0) hb); have n1_ := Aside0.mk (Kd.R_lower (Kd.R_new' ho0 (Kd.R_lt (by (with_reducible repeat (first | apply Kd.R_alloc | apply Kd.R_drewN | apply Kd.R_drew)); exact HO134.out))) (below_size (by repeat (first | (with_reducible first | exact HB.out | apply below_alloc | apply pw_below_drewN | apply below_drew1) | exact HB.out)))); have n2_ := Aside0.mk (below_step (by repeat (first | (with_reducible first | exact HB.out | apply below_alloc | apply pw_below_drewN | apply below_drew1) | exact HB.out)) hb); clear HO134; clear HB; have HO134 := n0_; have HO137 := n1_; have HB := n2_; clear n0_ n1_ n2_; (try clear hb); (try clear hb2); (try clear hk); (try clear hi); (try clear ho0)))
        repeat (go_quiet (first | (go_at_call 10; (with_reducible refine (codec_PutInt.calls kj4 _ _ l2 a0 t132 _ ?side1 ?side2 A10.out).mono ?_); (case side1 => repeat (first | exact (Kd.C_below HR2.out HB.out) | (with_reducible refine Kd.C_alloc ?_ _) | (with_reducible refine Kd.C_drewN ?_ _) | (with_reducible refine Kd.C_drew ?_))); (case side2 => exact HC2.out); rintro e w13 ⟨v133, rfl, ho0, hb⟩; have n0_ := Aside0.mk (Kd.R_lower ho0 (below_size (by repeat (first | (with_reducible first | exact HB.out | apply below_alloc | apply pw_below_drewN | apply below_drew1) | exact HB.out)))); have n1_ := Aside0.mk (below_step (by repeat (first | (with_reducible first | exact HB.out | apply below_alloc | apply pw_below_drewN | apply below_drew1) | exact HB.out)) hb); clear HB; have HO134 := n0_; have HB := n1_; clear n0_ n1_; (try clear hb); (try clear hb2); (try clear hk); (try clear hi); (try clear ho0); obtain ⟨Ao14, co14, eo14⟩ := Kd.R_slice HO134.out; subst eo14) | (go_at_call 10; (with_reducible refine (codec_PutInt.calls kj4 _ _ t132 a1 t135 _ ?side1 ?side2 A11.out).mono ?_); (case side1 => repeat (first | exact (Kd.R_reads' HO134.out).2.2 | (with_reducible refine Kd.C_alloc ?_ _) | (with_reducible refine Kd.C_drewN ?_ _) | (with_reducible refine Kd.C_drew ?_))); (case side2 => exact (Kd.R_reads' HO134.out).2.1); rintro e w15 ⟨v136, rfl, ho0, hb⟩; have n0_ := Aside0.mk (Kd.R_elder' (by (with_reducible repeat (first | apply Kd.R_alloc | apply Kd.R_drewN | apply Kd.R_drew)); exact HO134.out) (Kd.R_base ho0) hb); have n1_ := Aside0.mk (Kd.R_lower (Kd.R_new' ho0 (Kd.R_lt (by (with_reducible repeat (first | apply Kd.R_alloc | apply Kd.R_drewN | apply Kd.R_drew)); exact HO134.out))) (below_size (by repeat (first | (with_reducible first | exact HB.out | apply below_alloc | apply pw_below_drewN | apply below_drew1) | exact HB.out)))); have n2_ := Aside0.mk (below_step (by repeat (first | (with_reducible first | exact HB.out | apply below_alloc | apply pw_below_drewN | apply below_drew1) | exact HB.out)) hb); clear HO134; clear HB; have HO134 := n0_; have HO137 := n1_; have HB := n2_; clear n0_ n1_ n2_; (try clear hb); (try clear hb2); (try clear hk); (try clear hi); (try clear ho0))); go_upto_region 4 with (first | (go_at_call 10; (with_reducible refine (codec_PutInt.calls kj4 _ _ l2 a0 t132 _ ?side1 ?side2 A10.out).mono ?_); (case side1 => repeat (first | exact (Kd.C_below HR2.out HB.out) | (with_reducible refine Kd.C_alloc ?_ _) | (with_reducible refine Kd.C_drewN ?_ _) | (with_reducible refine Kd.C_drew ?_))); (case side2 => exact HC2.out); rintro e w13 ⟨v133, rfl, ho0, hb⟩; have n0_ := Aside0.mk (Kd.R_lower ho0 (below_size (by repeat (first | (with_reducible first | exact HB.out | apply below_alloc | apply pw_below_drewN | apply below_drew1) | exact HB.out)))); have n1_ := Aside0.mk (below_step (by repeat (first | (with_reducible first | exact HB.out | apply below_alloc | apply pw_below_drewN | apply below_drew1) | exact HB.out)) hb); clear HB; have HO134 := n0_; have HB := n1_; clear n0_ n1_; (try clear hb); (try clear hb2); (try clear hk); (try clear hi); (try clear ho0); obtain ⟨Ao14, co14, eo14⟩ := Kd.R_slice HO134.out; subst eo14) | (go_at_call 10; (with_reducible refine (codec_PutInt.calls kj4 _ _ t132 a1 t135 _ ?side1 ?side2 A11.out).mono ?_); (case side1 => repeat (first | exact (Kd.R_reads' HO134.out).2.2 | (with_reducible refine Kd.C_alloc ?_ _) | (with_reducible refine Kd.C_drewN ?_ _) | (with_reducible refine Kd.C_drew ?_))); (case side2 => exact (Kd.R_reads' HO134.out).2.1); rintro e w15 ⟨v136, rfl, ho0, hb⟩; have n0_ := Aside0.mk (Kd.R_elder' (by (with_reducible repeat (first | apply Kd.R_alloc | apply Kd.R_drewN | apply Kd.R_drew)); exact HO134.out) (Kd.R_base ho0) hb); have n1_ := Aside0.mk (Kd.R_lower (Kd.R_new' ho0 (Kd.R_lt (by (with_reducible repeat (first | apply Kd.R_alloc | apply Kd.R_drewN | apply Kd.R_drew)); exact HO134.out))) (below_size (by repeat (first | (with_reducible first | exact HB.out | apply below_alloc | apply pw_below_drewN | apply below_drew1) | exact HB.out)))); have n2_ := Aside0.mk (below_step (by repeat (first | (with_reducible first | exact HB.out | apply below_alloc | apply pw_below_drewN | apply below_drew1) | exact HB.out)) hb); clear HO134; clear HB; have HO134 := n0_; have HO137 := n1_; have HB := n2_; clear n0_ n1_ n2_; (try clear hb); (try clear hb2); (try clear hk); (try clear hi); (try clear ho0))))
        (try simp only [Act.put, List.setIfInBounds_toArray, List.set_cons_zero, List.set_cons_succ])
        go_cut [56] (fun v56 wc => ∃ (kq : Nat) (x56_11 : Bool), v56 = .bool x56_11 ∧ Aside0 (shapesearchlaw03_CodecBack.j1 kq a0 a1 l2 l3 t135 x56_11 = some r) ∧ Aside0 (kq ≤ kj4) ∧ Aside0 (Kd.R (Kd.int .u8) 5 wc w.heap.size (fun _ => True) v136 t135) ∧ Aside0 (Below w.heap.size w wc))
        case first =>
          have H := HC12.out
          clear HC12
          by_cases c16 : (t135.length : Int) < (wrap64 ((l2.length : Int) + 2))
          · rw [if_pos c16] at H
            have c16b0 : decide ((t135.length : Int) < (wrap64 ((l2.length : Int) + 2))) = true := decide_eq_true c16
            clear c16
            (first | rw [c16b0] | (simp only [i64_w, i32_w]; rw [c16b0]) | skip)
            have H' := Aside0.mk H
            clear H
            obtain ⟨Ao17, co17, eo17⟩ := Kd.R_slice HO137.out
            subst eo17
            go_wp2
            repeat (go_quiet (fail); try go_wp2)
            go_meet
            case rel => exact ⟨_, (true), (by first | rfl | (simp; done) | (simp [*]; done)), H', ⟨by have := HJ4.out; first | omega | exact Nat.le_refl _⟩, ⟨by (with_reducible repeat (first | apply Kd.R_alloc | apply Kd.R_drewN | apply Kd.R_drew)); exact Kd.R_mono HO137.out (fun _ hk => trivial)⟩, ⟨by repeat (first | (with_reducible first | exact HB.out | apply below_alloc | apply pw_below_drewN | apply below_drew1) | exact HB.out)⟩⟩
          · rw [if_neg c16] at H
            have c16b0 : decide ((t135.length : Int) < (wrap64 ((l2.length : Int) + 2))) = false := decide_eq_false c16
            clear c16
            (first | rw [c16b0] | (simp only [i64_w, i32_w]; rw [c16b0]) | skip)
            by_cases c18 : (t135.length : Int) > (wrap64 ((l2.length : Int) + 20))
            · rw [if_pos c18] at H
              have c18b0 : decide ((wrap64 ((l2.length : Int) + 20)) < (t135.length : Int)) = true := decide_eq_true c18
              clear c18
              have H' := Aside0.mk H
              clear H
              obtain ⟨Ao19, co19, eo19⟩ := Kd.R_slice HO137.out
              subst eo19
              go_wp2
              repeat (go_quiet (fail); try go_wp2)
              go_meet
              case rel => exact ⟨_, (true), (by first | rfl | (simp; done) | (simp [*]; done)), H', ⟨by have := HJ4.out; first | omega | exact Nat.le_refl _⟩, ⟨by (with_reducible repeat (first | apply Kd.R_alloc | apply Kd.R_drewN | apply Kd.R_drew)); exact Kd.R_mono HO137.out (fun _ hk => trivial)⟩, ⟨by repeat (first | (with_reducible first | exact HB.out | apply below_alloc | apply pw_below_drewN | apply below_drew1) | exact HB.out)⟩⟩
            · rw [if_neg c18] at H
              have c18b0 : decide ((wrap64 ((l2.length : Int) + 20)) < (t135.length : Int)) = false := decide_eq_false c18
              clear c18
              by_cases c20 : 0 ≤ (l2.length : Int)
              · rw [if_pos c20] at H
                have c20b0 := eq_true c20
                have c20b1 : decide (0 ≤ (l2.length : Int)) = true := decide_eq_true c20
                clear c20
                by_cases c21 : (l2.length : Int) ≤ (t135.length : Int)
                · rw [if_pos c21] at H
                  have c21b0 := eq_true c21
                  have c21b1 : decide ((l2.length : Int) ≤ (t135.length : Int)) = true := decide_eq_true c21
                  clear c21
                  obtain ⟨y138, hy138⟩ : ∃ y_ : List Int, y_ = (t135.take ((l2.length : Int) : Int).toNat) := ⟨_, rfl⟩
                  replace H : (shapesearchlaw03_CodecBack.j1 kj4 a0 a1 l2 l3 t135 ((strOfNums y138).toList != (strOfNums l2).toList)) = some r := by first | (rw [hy138]; with_reducible exact H) | (have H2_ := (Option.bind_some _ _).symm.trans H; rw [hy138]; with_reducible exact H2_) | (have H2_ := (Option.bind_some _ _).symm.trans H; with_reducible exact H2_) | with_reducible exact H | (rw [hy138]; exact H) | exact H
                  have Ny138 := Aside0.mk hy138
                  clear hy138
                  have H' := Aside0.mk H
                  clear H
                  obtain ⟨Ao22, co22, eo22⟩ := Kd.R_slice HO137.out
                  subst eo22
                  have q23 : ((l2.length : Int) : Int) ≤ ((t135.length : Int) : Int) := of_decide_eq_true (by first | (with_reducible assumption) | assumption)
                  obtain ⟨i023, hi023, _, hsz23, _⟩ := info_parts info5
                  have hroom23 : t135.length ≤ co22 := (Kd.R_reads' HO137.out).2.1
                  have hC23 : Kd.C (Kd.int .u8) _ Ao22 t135.length t135 := (Kd.R_reads' HO137.out).2.2
                  have hcut23 := cut_to (P := Try.prog) 22 5 .i64 Try.underlying22 hi023 Ao22 t135.length co22 (l2.length : Int) (of_decide_eq_true (by first | (with_reducible assumption) | assumption)) q23 hroom23
                  have hr23 := Kd.C_take (m := ((l2.length : Int) : Int).toNat) hC23 (by omega)
                  have hy23 : y138.length = ((l2.length : Int) : Int).toNat := (by rw [Ny138.out, List.length_take]; omega)
                  rw [← Ny138.out] at hr23
                  rw [← hy23] at hcut23
                  have HR141 := Aside0.mk hr23
                  have HC141 := Aside0.mk (show y138.length ≤ co22 from by omega)
                  clear hr23 hC23 hroom23 hi023 hsz23
                  have KY23 := Aside0.mk hy23
                  clear hy23
                  have KL23 := Aside0.mk (show ((l2.length : Int) : Int).toNat ≤ t135.length from by omega)
                  replace q23 := eq_true q23
                  have hcv24 := Kd.C_string (P := Try.prog) (A := Ao22) (c := co22) Try.underlying22 Try.underlying5 Try.underlying9 (by repeat (first | (with_reducible exact HR141.out) | (with_reducible refine Kd.C_alloc ?_ _) | (with_reducible refine Kd.C_drewN ?_ _) | (with_reducible refine Kd.C_drew ?_) | exact HR141.out))
                  have hcv24q := fun n_ : Nat => Kd.C_string (P := Try.prog) (A := Ao22) (c := co22) Try.underlying22 Try.underlying5 Try.underlying9 (Kd.C_drewN (by repeat (first | (with_reducible exact HR141.out) | (with_reducible refine Kd.C_alloc ?_ _) | (with_reducible refine Kd.C_drewN ?_ _) | (with_reducible refine Kd.C_drew ?_) | exact HR141.out)) n_)
                  have hcv25 := Kd.C_string (P := Try.prog) (A := A2) (c := c2) Try.underlying22 Try.underlying5 Try.underlying9 (Kd.C_below HR2.out HB.out)
                  have hcv25q := fun n_ : Nat => Kd.C_string (P := Try.prog) (A := A2) (c := c2) Try.underlying22 Try.underlying5 Try.underlying9 (Kd.C_drewN (Kd.C_below HR2.out HB.out) n_)
                  go_wp2
                  repeat (go_quiet (fail); try go_wp2)
                  go_meet
                  case rel => exact ⟨_, (((strOfNums y138).toList != (strOfNums l2).toList)), (by first | rfl | (simp; done) | (simp [*]; done)), H', ⟨by have := HJ4.out; first | omega | exact Nat.le_refl _⟩, ⟨by (with_reducible repeat (first | apply Kd.R_alloc | apply Kd.R_drewN | apply Kd.R_drew)); exact Kd.R_mono HO137.out (fun _ hk => trivial)⟩, ⟨by repeat (first | (with_reducible first | exact HB.out | apply below_alloc | apply pw_below_drewN | apply below_drew1) | exact HB.out)⟩⟩
                · rw [if_neg c21] at H
                  exact absurd H (by simp)
              · rw [if_neg c20] at H
                exact absurd H (by simp)
        case rest =>
          clear HC12
          try clear c1
          try clear c2
          try clear p2
          try clear q2
          try clear hcv2
          try clear c3
          try clear c6
          try clear c6b0
          try clear c6b1
          try clear p6
          try clear c7
          try clear c16
          try clear c16b0
          try clear c18
          try clear c18b0
          try clear c20
          try clear c20b0
          try clear c20b1
          try clear c21
          try clear c21b0
          try clear c21b1
          try clear q23
          try clear hcv24
          try clear hcv25
          try clear p2
          try clear q23
          obtain ⟨kq, x56_11, rfl, HA, HJ11, HO_9, HB⟩ := hcut
          cases kq with
          | zero => exact absurd HA.out (by simp [shapesearchlaw03_CodecBack.j1])
          | succ kj11 =>
            have H := HA.out
            clear HA
            simp only [shapesearchlaw03_CodecBack.j1] at H
            by_cases c26 : x56_11 = true
            · subst c26
              have H1 : (some false) = some r := by rw [if_pos rfl] at H; exact H
              clear H
              have H := H1
              clear H1
              obtain rfl := Option.some.inj H
              go_wp2
              repeat (go_quiet (fail); try go_wp2)
              go_ret
              exact ⟨by first | rfl | (simp [errW_none, errW_some] <;> rfl) | (simp [*, errW_none, errW_some] <;> rfl), by repeat (first | (with_reducible first | exact HB.out | apply below_alloc | apply pw_below_drewN | apply below_drew1) | exact HB.out)⟩
            · replace c26 := Bool.eq_false_iff.mpr c26
              subst c26
              have H1 : ((some (([] : List Int) : List Int)).bind fun y142 => (if y142.length + t135.length < 140737488355328 then ((some (y142 ++ t135 : List Int)).bind fun y145 => (if y145.length + l3.length < 140737488355328 then ((codec_Int.f kj11 (y145 ++ l3) (l2.length : Int)).bind fun bt151 => (if bt151.2.2 = 0 then (if bt151.1 = a0 then (if bt151.2.1 ≤ (l2.length : Int) then (shapesearchlaw03_CodecBack.j2 kj11 a1 l2 t135 bt151.2.1 true) else (shapesearchlaw03_CodecBack.j2 kj11 a1 l2 t135 bt151.2.1 (decide (bt151.2.1 ≥ (t135.length : Int))))) else (shapesearchlaw03_CodecBack.j2 kj11 a1 l2 t135 bt151.2.1 true)) else (shapesearchlaw03_CodecBack.j2 kj11 a1 l2 t135 bt151.2.1 true))) else (none))) else (none))) = some r := by rw [if_neg (show ¬ (false = true) by decide)] at H; exact H
              clear H
              have H := H1
              clear H1
              obtain ⟨y142, hy142⟩ : ∃ y_ : List Int, y_ = (([] : List Int)) := ⟨_, rfl⟩
              replace H : (if y142.length + t135.length < 140737488355328 then ((some (y142 ++ t135 : List Int)).bind fun y145 => (if y145.length + l3.length < 140737488355328 then ((codec_Int.f kj11 (y145 ++ l3) (l2.length : Int)).bind fun bt151 => (if bt151.2.2 = 0 then (if bt151.1 = a0 then (if bt151.2.1 ≤ (l2.length : Int) then (shapesearchlaw03_CodecBack.j2 kj11 a1 l2 t135 bt151.2.1 true) else (shapesearchlaw03_CodecBack.j2 kj11 a1 l2 t135 bt151.2.1 (decide (bt151.2.1 ≥ (t135.length : Int))))) else (shapesearchlaw03_CodecBack.j2 kj11 a1 l2 t135 bt151.2.1 true)) else (shapesearchlaw03_CodecBack.j2 kj11 a1 l2 t135 bt151.2.1 true))) else (none))) else (none)) = some r := by first | (rw [hy142]; with_reducible exact H) | (have H2_ := (Option.bind_some _ _).symm.trans H; rw [hy142]; with_reducible exact H2_) | (have H2_ := (Option.bind_some _ _).symm.trans H; with_reducible exact H2_) | with_reducible exact H | (rw [hy142]; exact H) | exact H
              have Ny142 := Aside0.mk hy142
              clear hy142
              by_cases c27 : y142.length + t135.length < 140737488355328
              · rw [if_pos c27] at H
                have LMc27 := Aside0.mk c27
                clear c27
                obtain ⟨y145, hy145⟩ : ∃ y_ : List Int, y_ = (y142 ++ t135) := ⟨_, rfl⟩
                replace H : (if y145.length + l3.length < 140737488355328 then ((codec_Int.f kj11 (y145 ++ l3) (l2.length : Int)).bind fun bt151 => (if bt151.2.2 = 0 then (if bt151.1 = a0 then (if bt151.2.1 ≤ (l2.length : Int) then (shapesearchlaw03_CodecBack.j2 kj11 a1 l2 t135 bt151.2.1 true) else (shapesearchlaw03_CodecBack.j2 kj11 a1 l2 t135 bt151.2.1 (decide (bt151.2.1 ≥ (t135.length : Int))))) else (shapesearchlaw03_CodecBack.j2 kj11 a1 l2 t135 bt151.2.1 true)) else (shapesearchlaw03_CodecBack.j2 kj11 a1 l2 t135 bt151.2.1 true))) else (none)) = some r := by first | (rw [hy145]; with_reducible exact H) | (have H2_ := (Option.bind_some _ _).symm.trans H; rw [hy145]; with_reducible exact H2_) | (have H2_ := (Option.bind_some _ _).symm.trans H; with_reducible exact H2_) | with_reducible exact H | (rw [hy145]; exact H) | exact H
                have Ny145 := Aside0.mk hy145
                clear hy145
                by_cases c28 : y145.length + l3.length < 140737488355328
                · rw [if_pos c28] at H
                  have LMc28 := Aside0.mk c28
                  clear c28
                  obtain ⟨y148, hy148⟩ : ∃ y_ : List Int, y_ = (y145 ++ l3) := ⟨_, rfl⟩
                  replace H : ((codec_Int.f kj11 y148 (l2.length : Int)).bind fun bt151 => (if bt151.2.2 = 0 then (if bt151.1 = a0 then (if bt151.2.1 ≤ (l2.length : Int) then (shapesearchlaw03_CodecBack.j2 kj11 a1 l2 t135 bt151.2.1 true) else (shapesearchlaw03_CodecBack.j2 kj11 a1 l2 t135 bt151.2.1 (decide (bt151.2.1 ≥ (t135.length : Int))))) else (shapesearchlaw03_CodecBack.j2 kj11 a1 l2 t135 bt151.2.1 true)) else (shapesearchlaw03_CodecBack.j2 kj11 a1 l2 t135 bt151.2.1 true))) = some r := by first | (rw [hy148]; with_reducible exact H) | (have H2_ := (Option.bind_some _ _).symm.trans H; rw [hy148]; with_reducible exact H2_) | (have H2_ := (Option.bind_some _ _).symm.trans H; with_reducible exact H2_) | with_reducible exact H | (rw [hy148]; exact H) | exact H
                  have Ny148 := Aside0.mk hy148
                  clear hy148
                  replace H := Option.bind_eq_some_iff.mp H
                  obtain ⟨⟨t151, t152, t153⟩, A290, H⟩ := H
                  replace H : (if t153 = 0 then (if t151 = a0 then (if t152 ≤ (l2.length : Int) then (shapesearchlaw03_CodecBack.j2 kj11 a1 l2 t135 t152 true) else (shapesearchlaw03_CodecBack.j2 kj11 a1 l2 t135 t152 (decide (t152 ≥ (t135.length : Int))))) else (shapesearchlaw03_CodecBack.j2 kj11 a1 l2 t135 t152 true)) else (shapesearchlaw03_CodecBack.j2 kj11 a1 l2 t135 t152 true)) = some r := H
                  have A29 := Aside0.mk A290
                  clear A290
                  have HC30 := Aside0.mk H
                  clear H
                  go_upto_region 7 with (first | ((with_reducible refine gate_dst (N := 58) rfl ?_); (try (refine gate_guard (by rfl) ?_; dsimp only)); refine Kd.R_lit (Kd.int .u8) _ 5 ?hg (N := 58) ?hd (xs := ([] : List Int)) (inner := []) (ok := fun _ => True) (okp := fun _ => True) ?hr ?hp (fun _ hk => hk) trivial (Below.refl _ _) (Nat.le_refl _) (by simp) ?_; (case hd => rfl); (case hg => rfl); (case hr => first | (go_simp; done) | (go_simp; rfl)); (case hp => exact (Reps.none _ _)); intro v143 w31 ho32 hb hg_ hnew_; clear hg_ hnew_; (first | rw [← Ny142.out] at ho32 | (simp only [Int.reduceToNat] at ho32; rw [← Ny142.out] at ho32)); have n0_ := Aside0.mk (Kd.R_elder' (by (with_reducible repeat (first | apply Kd.R_alloc | apply Kd.R_drewN | apply Kd.R_drew)); exact HO_9.out) (Kd.R_base ho32) hb); have n1_ := Aside0.mk (Kd.R_lower (Kd.R_new' ho32 (Kd.R_lt (by (with_reducible repeat (first | apply Kd.R_alloc | apply Kd.R_drewN | apply Kd.R_drew)); exact HO_9.out))) (below_size (by repeat (first | (with_reducible first | exact HB.out | apply below_alloc | apply pw_below_drewN | apply below_drew1) | exact HB.out)))); have n2_ := Aside0.mk (below_step (by repeat (first | (with_reducible first | exact HB.out | apply below_alloc | apply pw_below_drewN | apply below_drew1) | exact HB.out)) hb); clear HO_9; clear HB; have HO_9 := n0_; have HO144 := n1_; have HB := n2_; clear n0_ n1_ n2_; clear hb ho32; obtain ⟨Ao34, co34, eo34⟩ := Kd.R_slice HO_9.out; subst eo34) | ((with_reducible refine gate_builtin (b := .append) (xs := #[.tmp 58, .tmp 59]) rfl ?_); (try (refine gate_guard (by rfl) ?_; dsimp only)); at_builtin; refine Kd.R_append_rows (Kd.int .u8) (w0 := w) w.heap.size rfl (.tmp 58) (.tmp 59) 22 5 (.int .u8 0) 1 rfl Try.underlying22 info5 rfl (by decide) (by omega) v143 y142 t135 _ _ _ (fun k_ => some k_ ≠ (.slice Ao34 t135.length co34 : Value).ownBlock) (fun _ => False) rfl rfl ?aO ?aR (fun _ _ h => h) (fun _ h => h.elim) ?aF ?aB ?aS ?aL ?_; (case aR => repeat (first | exact (Kd.R_reads' HO_9.out).2.2 | (with_reducible refine Kd.C_alloc ?_ _) | (with_reducible refine Kd.C_drewN ?_ _) | (with_reducible refine Kd.C_drew ?_))); (case aB => exact (by repeat (first | (with_reducible first | exact HB.out | apply below_alloc | apply pw_below_drewN | apply below_drew1) | exact HB.out))); (case aF => exact (fun k_ hk => Kd.fresh' (Kd.R_lt (by (with_reducible repeat (first | apply Kd.R_alloc | apply Kd.R_drewN | apply Kd.R_drew)); exact HO_9.out)) k_ hk)); (case aO => exact (by (with_reducible repeat (first | apply Kd.R_alloc | apply Kd.R_drewN | apply Kd.R_drew)); exact Kd.R_mono HO144.out (fun _ hk => hk.2))); (case aS => exact (below_size (by repeat (first | (with_reducible first | exact HB.out | apply below_alloc | apply pw_below_drewN | apply below_drew1) | exact HB.out)))); (case aL => have := LMc27.out; omega); intro v146 w33 ho hb hg hat; rw [← Ny145.out] at ho; have n0_ := Aside0.mk (Kd.R_after (ok := (fun _ => True)) (by (with_reducible repeat (first | apply Kd.R_alloc | apply Kd.R_drewN | apply Kd.R_drew)); exact HO_9.out) hg hat); have n1_ := Aside0.mk (hb); have n2_ := Aside0.mk (ho); clear HO_9; clear HB; clear HO144; have HO_9 := n0_; have HB := n1_; have HO147 := n2_; clear n0_ n1_ n2_; clear ho hb hg hat) | ((with_reducible refine gate_builtin (b := .append) (xs := #[.tmp 60, .tmp 61]) rfl ?_); (try (refine gate_guard (by rfl) ?_; dsimp only)); at_builtin; refine Kd.R_append_rows (Kd.int .u8) (w0 := w) w.heap.size rfl (.tmp 60) (.tmp 61) 22 5 (.int .u8 0) 1 rfl Try.underlying22 info5 rfl (by decide) (by omega) v146 y145 l3 _ _ _ (fun k_ => some k_ ≠ (.slice Ao34 t135.length co34 : Value).ownBlock) (fun _ => False) rfl rfl ?aO ?aR (fun _ _ h => h) (fun _ h => h.elim) ?aF ?aB ?aS ?aL ?_; (case aR => repeat (first | exact (Kd.C_below HR3.out HB.out) | (with_reducible refine Kd.C_alloc ?_ _) | (with_reducible refine Kd.C_drewN ?_ _) | (with_reducible refine Kd.C_drew ?_))); (case aB => exact (by repeat (first | (with_reducible first | exact HB.out | apply below_alloc | apply pw_below_drewN | apply below_drew1) | exact HB.out))); (case aF => exact (fun k_ hk => Kd.fresh' (Kd.R_lt (by (with_reducible repeat (first | apply Kd.R_alloc | apply Kd.R_drewN | apply Kd.R_drew)); exact HO_9.out)) k_ hk)); (case aO => exact (by (with_reducible repeat (first | apply Kd.R_alloc | apply Kd.R_drewN | apply Kd.R_drew)); exact HO147.out)); (case aS => exact (below_size (by repeat (first | (with_reducible first | exact HB.out | apply below_alloc | apply pw_below_drewN | apply below_drew1) | exact HB.out)))); (case aL => have := LMc28.out; omega); intro v149 w35 ho hb hg hat; rw [← Ny148.out] at ho; have n0_ := Aside0.mk (Kd.R_after (ok := (fun _ => True)) (by (with_reducible repeat (first | apply Kd.R_alloc | apply Kd.R_drewN | apply Kd.R_drew)); exact HO_9.out) hg hat); have n1_ := Aside0.mk (hb); have n2_ := Aside0.mk (ho); clear HO_9; clear HB; clear HO147; have HO_9 := n0_; have HB := n1_; have HO150 := n2_; clear n0_ n1_ n2_; clear ho hb hg hat; obtain ⟨Ao36, co36, eo36⟩ := Kd.R_slice HO150.out; subst eo36) | (go_at_call 11; (with_reducible refine (codec_Int.calls kj11 _ _ y148 (l2.length : Int) t151 t152 t153 _ ?side1 ?side2 A29.out).mono ?_); (case side1 => repeat (first | exact (Kd.R_reads' HO150.out).2.2 | (with_reducible refine Kd.C_alloc ?_ _) | (with_reducible refine Kd.C_drewN ?_ _) | (with_reducible refine Kd.C_drew ?_))); (case side2 => exact (Kd.R_reads' HO150.out).2.1); rintro e w' ⟨rfl, ⟨nd, rfl⟩⟩; (try first | exact ⟨rfl, _, World.drewN_drewN _ _ _⟩ | exact ⟨rfl, _, Eq.trans (World.drewN_drewN _ _ _) (congrArg (World.drewN _) (Nat.add_assoc _ _ _))⟩)))
                  repeat (go_quiet (first | ((with_reducible refine gate_dst (N := 58) rfl ?_); (try (refine gate_guard (by rfl) ?_; dsimp only)); refine Kd.R_lit (Kd.int .u8) _ 5 ?hg (N := 58) ?hd (xs := ([] : List Int)) (inner := []) (ok := fun _ => True) (okp := fun _ => True) ?hr ?hp (fun _ hk => hk) trivial (Below.refl _ _) (Nat.le_refl _) (by simp) ?_; (case hd => rfl); (case hg => rfl); (case hr => first | (go_simp; done) | (go_simp; rfl)); (case hp => exact (Reps.none _ _)); intro v143 w31 ho32 hb hg_ hnew_; clear hg_ hnew_; (first | rw [← Ny142.out] at ho32 | (simp only [Int.reduceToNat] at ho32; rw [← Ny142.out] at ho32)); have n0_ := Aside0.mk (Kd.R_elder' (by (with_reducible repeat (first | apply Kd.R_alloc | apply Kd.R_drewN | apply Kd.R_drew)); exact HO_9.out) (Kd.R_base ho32) hb); have n1_ := Aside0.mk (Kd.R_lower (Kd.R_new' ho32 (Kd.R_lt (by (with_reducible repeat (first | apply Kd.R_alloc | apply Kd.R_drewN | apply Kd.R_drew)); exact HO_9.out))) (below_size (by repeat (first | (with_reducible first | exact HB.out | apply below_alloc | apply pw_below_drewN | apply below_drew1) | exact HB.out)))); have n2_ := Aside0.mk (below_step (by repeat (first | (with_reducible first | exact HB.out | apply below_alloc | apply pw_below_drewN | apply below_drew1) | exact HB.out)) hb); clear HO_9; clear HB; have HO_9 := n0_; have HO144 := n1_; have HB := n2_; clear n0_ n1_ n2_; clear hb ho32; obtain ⟨Ao34, co34, eo34⟩ := Kd.R_slice HO_9.out; subst eo34) | ((with_reducible refine gate_builtin (b := .append) (xs := #[.tmp 58, .tmp 59]) rfl ?_); (try (refine gate_guard (by rfl) ?_; dsimp only)); at_builtin; refine Kd.R_append_rows (Kd.int .u8) (w0 := w) w.heap.size rfl (.tmp 58) (.tmp 59) 22 5 (.int .u8 0) 1 rfl Try.underlying22 info5 rfl (by decide) (by omega) v143 y142 t135 _ _ _ (fun k_ => some k_ ≠ (.slice Ao34 t135.length co34 : Value).ownBlock) (fun _ => False) rfl rfl ?aO ?aR (fun _ _ h => h) (fun _ h => h.elim) ?aF ?aB ?aS ?aL ?_; (case aR => repeat (first | exact (Kd.R_reads' HO_9.out).2.2 | (with_reducible refine Kd.C_alloc ?_ _) | (with_reducible refine Kd.C_drewN ?_ _) | (with_reducible refine Kd.C_drew ?_))); (case aB => exact (by repeat (first | (with_reducible first | exact HB.out | apply below_alloc | apply pw_below_drewN | apply below_drew1) | exact HB.out))); (case aF => exact (fun k_ hk => Kd.fresh' (Kd.R_lt (by (with_reducible repeat (first | apply Kd.R_alloc | apply Kd.R_drewN | apply Kd.R_drew)); exact HO_9.out)) k_ hk)); (case aO => exact (by (with_reducible repeat (first | apply Kd.R_alloc | apply Kd.R_drewN | apply Kd.R_drew)); exact Kd.R_mono HO144.out (fun _ hk => hk.2))); (case aS => exact (below_size (by repeat (first | (with_reducible first | exact HB.out | apply below_alloc | apply pw_below_drewN | apply below_drew1) | exact HB.out)))); (case aL => have := LMc27.out; omega); intro v146 w33 ho hb hg hat; rw [← Ny145.out] at ho; have n0_ := Aside0.mk (Kd.R_after (ok := (fun _ => True)) (by (with_reducible repeat (first | apply Kd.R_alloc | apply Kd.R_drewN | apply Kd.R_drew)); exact HO_9.out) hg hat); have n1_ := Aside0.mk (hb); have n2_ := Aside0.mk (ho); clear HO_9; clear HB; clear HO144; have HO_9 := n0_; have HB := n1_; have HO147 := n2_; clear n0_ n1_ n2_; clear ho hb hg hat) | ((with_reducible refine gate_builtin (b := .append) (xs := #[.tmp 60, .tmp 61]) rfl ?_); (try (refine gate_guard (by rfl) ?_; dsimp only)); at_builtin; refine Kd.R_append_rows (Kd.int .u8) (w0 := w) w.heap.size rfl (.tmp 60) (.tmp 61) 22 5 (.int .u8 0) 1 rfl Try.underlying22 info5 rfl (by decide) (by omega) v146 y145 l3 _ _ _ (fun k_ => some k_ ≠ (.slice Ao34 t135.length co34 : Value).ownBlock) (fun _ => False) rfl rfl ?aO ?aR (fun _ _ h => h) (fun _ h => h.elim) ?aF ?aB ?aS ?aL ?_; (case aR => repeat (first | exact (Kd.C_below HR3.out HB.out) | (with_reducible refine Kd.C_alloc ?_ _) | (with_reducible refine Kd.C_drewN ?_ _) | (with_reducible refine Kd.C_drew ?_))); (case aB => exact (by repeat (first | (with_reducible first | exact HB.out | apply below_alloc | apply pw_below_drewN | apply below_drew1) | exact HB.out))); (case aF => exact (fun k_ hk => Kd.fresh' (Kd.R_lt (by (with_reducible repeat (first | apply Kd.R_alloc | apply Kd.R_drewN | apply Kd.R_drew)); exact HO_9.out)) k_ hk)); (case aO => exact (by (with_reducible repeat (first | apply Kd.R_alloc | apply Kd.R_drewN | apply Kd.R_drew)); exact HO147.out)); (case aS => exact (below_size (by repeat (first | (with_reducible first | exact HB.out | apply below_alloc | apply pw_below_drewN | apply below_drew1) | exact HB.out)))); (case aL => have := LMc28.out; omega); intro v149 w35 ho hb hg hat; rw [← Ny148.out] at ho; have n0_ := Aside0.mk (Kd.R_after (ok := (fun _ => True)) (by (with_reducible repeat (first | apply Kd.R_alloc | apply Kd.R_drewN | apply Kd.R_drew)); exact HO_9.out) hg hat); have n1_ := Aside0.mk (hb); have n2_ := Aside0.mk (ho); clear HO_9; clear HB; clear HO147; have HO_9 := n0_; have HB := n1_; have HO150 := n2_; clear n0_ n1_ n2_; clear ho hb hg hat; obtain ⟨Ao36, co36, eo36⟩ := Kd.R_slice HO150.out; subst eo36) | (go_at_call 11; (with_reducible refine (codec_Int.calls kj11 _ _ y148 (l2.length : Int) t151 t152 t153 _ ?side1 ?side2 A29.out).mono ?_); (case side1 => repeat (first | exact (Kd.R_reads' HO150.out).2.2 | (with_reducible refine Kd.C_alloc ?_ _) | (with_reducible refine Kd.C_drewN ?_ _) | (with_reducible refine Kd.C_drew ?_))); (case side2 => exact (Kd.R_reads' HO150.out).2.1); rintro e w' ⟨rfl, ⟨nd, rfl⟩⟩; (try first | exact ⟨rfl, _, World.drewN_drewN _ _ _⟩ | exact ⟨rfl, _, Eq.trans (World.drewN_drewN _ _ _) (congrArg (World.drewN _) (Nat.add_assoc _ _ _))⟩))); go_upto_region 7 with (first | ((with_reducible refine gate_dst (N := 58) rfl ?_); (try (refine gate_guard (by rfl) ?_; dsimp only)); refine Kd.R_lit (Kd.int .u8) _ 5 ?hg (N := 58) ?hd (xs := ([] : List Int)) (inner := []) (ok := fun _ => True) (okp := fun _ => True) ?hr ?hp (fun _ hk => hk) trivial (Below.refl _ _) (Nat.le_refl _) (by simp) ?_; (case hd => rfl); (case hg => rfl); (case hr => first | (go_simp; done) | (go_simp; rfl)); (case hp => exact (Reps.none _ _)); intro v143 w31 ho32 hb hg_ hnew_; clear hg_ hnew_; (first | rw [← Ny142.out] at ho32 | (simp only [Int.reduceToNat] at ho32; rw [← Ny142.out] at ho32)); have n0_ := Aside0.mk (Kd.R_elder' (by (with_reducible repeat (first | apply Kd.R_alloc | apply Kd.R_drewN | apply Kd.R_drew)); exact HO_9.out) (Kd.R_base ho32) hb); have n1_ := Aside0.mk (Kd.R_lower (Kd.R_new' ho32 (Kd.R_lt (by (with_reducible repeat (first | apply Kd.R_alloc | apply Kd.R_drewN | apply Kd.R_drew)); exact HO_9.out))) (below_size (by repeat (first | (with_reducible first | exact HB.out | apply below_alloc | apply pw_below_drewN | apply below_drew1) | exact HB.out)))); have n2_ := Aside0.mk (below_step (by repeat (first | (with_reducible first | exact HB.out | apply below_alloc | apply pw_below_drewN | apply below_drew1) | exact HB.out)) hb); clear HO_9; clear HB; have HO_9 := n0_; have HO144 := n1_; have HB := n2_; clear n0_ n1_ n2_; clear hb ho32; obtain ⟨Ao34, co34, eo34⟩ := Kd.R_slice HO_9.out; subst eo34) | ((with_reducible refine gate_builtin (b := .append) (xs := #[.tmp 58, .tmp 59]) rfl ?_); (try (refine gate_guard (by rfl) ?_; dsimp only)); at_builtin; refine Kd.R_append_rows (Kd.int .u8) (w0 := w) w.heap.size rfl (.tmp 58) (.tmp 59) 22 5 (.int .u8 0) 1 rfl Try.underlying22 info5 rfl (by decide) (by omega) v143 y142 t135 _ _ _ (fun k_ => some k_ ≠ (.slice Ao34 t135.length co34 : Value).ownBlock) (fun _ => False) rfl rfl ?aO ?aR (fun _ _ h => h) (fun _ h => h.elim) ?aF ?aB ?aS ?aL ?_; (case aR => repeat (first | exact (Kd.R_reads' HO_9.out).2.2 | (with_reducible refine Kd.C_alloc ?_ _) | (with_reducible refine Kd.C_drewN ?_ _) | (with_reducible refine Kd.C_drew ?_))); (case aB => exact (by repeat (first | (with_reducible first | exact HB.out | apply below_alloc | apply pw_below_drewN | apply below_drew1) | exact HB.out))); (case aF => exact (fun k_ hk => Kd.fresh' (Kd.R_lt (by (with_reducible repeat (first | apply Kd.R_alloc | apply Kd.R_drewN | apply Kd.R_drew)); exact HO_9.out)) k_ hk)); (case aO => exact (by (with_reducible repeat (first | apply Kd.R_alloc | apply Kd.R_drewN | apply Kd.R_drew)); exact Kd.R_mono HO144.out (fun _ hk => hk.2))); (case aS => exact (below_size (by repeat (first | (with_reducible first | exact HB.out | apply below_alloc | apply pw_below_drewN | apply below_drew1) | exact HB.out)))); (case aL => have := LMc27.out; omega); intro v146 w33 ho hb hg hat; rw [← Ny145.out] at ho; have n0_ := Aside0.mk (Kd.R_after (ok := (fun _ => True)) (by (with_reducible repeat (first | apply Kd.R_alloc | apply Kd.R_drewN | apply Kd.R_drew)); exact HO_9.out) hg hat); have n1_ := Aside0.mk (hb); have n2_ := Aside0.mk (ho); clear HO_9; clear HB; clear HO144; have HO_9 := n0_; have HB := n1_; have HO147 := n2_; clear n0_ n1_ n2_; clear ho hb hg hat) | ((with_reducible refine gate_builtin (b := .append) (xs := #[.tmp 60, .tmp 61]) rfl ?_); (try (refine gate_guard (by rfl) ?_; dsimp only)); at_builtin; refine Kd.R_append_rows (Kd.int .u8) (w0 := w) w.heap.size rfl (.tmp 60) (.tmp 61) 22 5 (.int .u8 0) 1 rfl Try.underlying22 info5 rfl (by decide) (by omega) v146 y145 l3 _ _ _ (fun k_ => some k_ ≠ (.slice Ao34 t135.length co34 : Value).ownBlock) (fun _ => False) rfl rfl ?aO ?aR (fun _ _ h => h) (fun _ h => h.elim) ?aF ?aB ?aS ?aL ?_; (case aR => repeat (first | exact (Kd.C_below HR3.out HB.out) | (with_reducible refine Kd.C_alloc ?_ _) | (with_reducible refine Kd.C_drewN ?_ _) | (with_reducible refine Kd.C_drew ?_))); (case aB => exact (by repeat (first | (with_reducible first | exact HB.out | apply below_alloc | apply pw_below_drewN | apply below_drew1) | exact HB.out))); (case aF => exact (fun k_ hk => Kd.fresh' (Kd.R_lt (by (with_reducible repeat (first | apply Kd.R_alloc | apply Kd.R_drewN | apply Kd.R_drew)); exact HO_9.out)) k_ hk)); (case aO => exact (by (with_reducible repeat (first | apply Kd.R_alloc | apply Kd.R_drewN | apply Kd.R_drew)); exact HO147.out)); (case aS => exact (below_size (by repeat (first | (with_reducible first | exact HB.out | apply below_alloc | apply pw_below_drewN | apply below_drew1) | exact HB.out)))); (case aL => have := LMc28.out; omega); intro v149 w35 ho hb hg hat; rw [← Ny148.out] at ho; have n0_ := Aside0.mk (Kd.R_after (ok := (fun _ => True)) (by (with_reducible repeat (first | apply Kd.R_alloc | apply Kd.R_drewN | apply Kd.R_drew)); exact HO_9.out) hg hat); have n1_ := Aside0.mk (hb); have n2_ := Aside0.mk (ho); clear HO_9; clear HB; clear HO147; have HO_9 := n0_; have HB := n1_; have HO150 := n2_; clear n0_ n1_ n2_; clear ho hb hg hat; obtain ⟨Ao36, co36, eo36⟩ := Kd.R_slice HO150.out; subst eo36) | (go_at_call 11; (with_reducible refine (codec_Int.calls kj11 _ _ y148 (l2.length : Int) t151 t152 t153 _ ?side1 ?side2 A29.out).mono ?_); (case side1 => repeat (first | exact (Kd.R_reads' HO150.out).2.2 | (with_reducible refine Kd.C_alloc ?_ _) | (with_reducible refine Kd.C_drewN ?_ _) | (with_reducible refine Kd.C_drew ?_))); (case side2 => exact (Kd.R_reads' HO150.out).2.1); rintro e w' ⟨rfl, ⟨nd, rfl⟩⟩; (try first | exact ⟨rfl, _, World.drewN_drewN _ _ _⟩ | exact ⟨rfl, _, Eq.trans (World.drewN_drewN _ _ _) (congrArg (World.drewN _) (Nat.add_assoc _ _ _))⟩))))
                  (try simp only [Act.put, List.setIfInBounds_toArray, List.set_cons_zero, List.set_cons_succ])
                  go_cut [87] (fun v87 wc => ∃ (kq : Nat) (x87_29 : Bool), v87 = .bool x87_29 ∧ Aside0 (shapesearchlaw03_CodecBack.j2 kq a1 l2 t135 t152 x87_29 = some r) ∧ Aside0 (kq ≤ kj11) ∧ Aside0 (Kd.R (Kd.int .u8) 5 wc w.heap.size (fun _ => True) (.slice Ao34 t135.length co34) t135) ∧ Aside0 (Below w.heap.size w wc))
                  case first =>
                    have H := HC30.out
                    clear HC30
                    by_cases c37 : t153 = 0
                    · rw [if_pos c37] at H
                      have c37b0 : (t153 == 0) = true := beq_iff_eq.mpr c37
                      have c37b1 : (t153 != 0) = false := bne_eq_false_iff_eq.mpr c37
                      clear c37
                      (first | rw [c37b0] | (simp only [i64_w, i32_w]; rw [c37b0]) | skip)
                      by_cases c38 : t151 = a0
                      · rw [if_pos c38] at H
                        have c38b0 : (t151 == a0) = true := beq_iff_eq.mpr c38
                        have c38b1 : (t151 != a0) = false := bne_eq_false_iff_eq.mpr c38
                        clear c38
                        by_cases c39 : t152 ≤ (l2.length : Int)
                        · rw [if_pos c39] at H
                          have c39b0 : decide (t152 ≤ (l2.length : Int)) = true := decide_eq_true c39
                          clear c39
                          have H' := Aside0.mk H
                          clear H
                          go_wp2
                          repeat (go_quiet (fail); try go_wp2)
                          go_meet
                          case rel => exact ⟨_, (true), (by first | rfl | (simp; done) | (simp [*]; done)), H', ⟨by have := HJ4.out; have := HJ11.out; first | omega | exact Nat.le_refl _⟩, ⟨by (with_reducible repeat (first | apply Kd.R_alloc | apply Kd.R_drewN | apply Kd.R_drew)); exact Kd.R_mono HO_9.out (fun _ hk => trivial)⟩, ⟨by repeat (first | (with_reducible first | exact HB.out | apply below_alloc | apply pw_below_drewN | apply below_drew1) | exact HB.out)⟩⟩
                        · rw [if_neg c39] at H
                          have c39b0 : decide (t152 ≤ (l2.length : Int)) = false := decide_eq_false c39
                          clear c39
                          have H' := Aside0.mk H
                          clear H
                          go_wp2
                          repeat (go_quiet (fail); try go_wp2)
                          go_meet
                          case rel => exact ⟨_, (decide (t152 ≥ (t135.length : Int))), (by first | rfl | (simp; done) | (simp [*]; done)), H', ⟨by have := HJ4.out; have := HJ11.out; first | omega | exact Nat.le_refl _⟩, ⟨by (with_reducible repeat (first | apply Kd.R_alloc | apply Kd.R_drewN | apply Kd.R_drew)); exact Kd.R_mono HO_9.out (fun _ hk => trivial)⟩, ⟨by repeat (first | (with_reducible first | exact HB.out | apply below_alloc | apply pw_below_drewN | apply below_drew1) | exact HB.out)⟩⟩
                      · rw [if_neg c38] at H
                        have c38b0 : (t151 == a0) = false := beq_eq_false_iff_ne.mpr c38
                        have c38b1 : (t151 != a0) = true := bne_iff_ne.mpr c38
                        have H' := Aside0.mk H
                        clear H
                        go_wp2
                        repeat (go_quiet (fail); try go_wp2)
                        go_meet
                        case rel => exact ⟨_, (true), (by first | rfl | (simp; done) | (simp [*]; done)), H', ⟨by have := HJ4.out; have := HJ11.out; first | omega | exact Nat.le_refl _⟩, ⟨by (with_reducible repeat (first | apply Kd.R_alloc | apply Kd.R_drewN | apply Kd.R_drew)); exact Kd.R_mono HO_9.out (fun _ hk => trivial)⟩, ⟨by repeat (first | (with_reducible first | exact HB.out | apply below_alloc | apply pw_below_drewN | apply below_drew1) | exact HB.out)⟩⟩
                    · rw [if_neg c37] at H
                      have c37b0 : (t153 == 0) = false := beq_eq_false_iff_ne.mpr c37
                      have c37b1 : (t153 != 0) = true := bne_iff_ne.mpr c37
                      (first | rw [c37b0] | (simp only [i64_w, i32_w]; rw [c37b0]) | skip)
                      have H' := Aside0.mk H
                      clear H
                      go_wp2
                      repeat (go_quiet (fail); try go_wp2)
                      go_meet
                      case rel => exact ⟨_, (true), (by first | rfl | (simp; done) | (simp [*]; done)), H', ⟨by have := HJ4.out; have := HJ11.out; first | omega | exact Nat.le_refl _⟩, ⟨by (with_reducible repeat (first | apply Kd.R_alloc | apply Kd.R_drewN | apply Kd.R_drew)); exact Kd.R_mono HO_9.out (fun _ hk => trivial)⟩, ⟨by repeat (first | (with_reducible first | exact HB.out | apply below_alloc | apply pw_below_drewN | apply below_drew1) | exact HB.out)⟩⟩
                  case rest =>
                    clear HC30
                    try clear c1
                    try clear c2
                    try clear p2
                    try clear q2
                    try clear hcv2
                    try clear c3
                    try clear c6
                    try clear c6b0
                    try clear c6b1
                    try clear p6
                    try clear c7
                    try clear c16
                    try clear c16b0
                    try clear c18
                    try clear c18b0
                    try clear c20
                    try clear c20b0
                    try clear c20b1
                    try clear c21
                    try clear c21b0
                    try clear c21b1
                    try clear q23
                    try clear hcv24
                    try clear hcv25
                    try clear c26
                    try clear c27
                    try clear c28
                    try clear c37
                    try clear c37b0
                    try clear c37b1
                    try clear c38
                    try clear c38b0
                    try clear c38b1
                    try clear c39
                    try clear c39b0
                    try clear p2
                    try clear p6
                    try clear q2
                    try clear q23
                    obtain ⟨kq, x87_29, rfl, HA, HJ29, HO_9, HB⟩ := hcut
                    cases kq with
                    | zero => exact absurd HA.out (by simp [shapesearchlaw03_CodecBack.j2])
                    | succ kj29 =>
                      have H := HA.out
                      clear HA
                      simp only [shapesearchlaw03_CodecBack.j2] at H
                      by_cases c40 : x87_29 = true
                      · subst c40
                        have H1 : (some false) = some r := by rw [if_pos rfl] at H; exact H
                        clear H
                        have H := H1
                        clear H1
                        obtain rfl := Option.some.inj H
                        go_wp2
                        repeat (go_quiet (fail); try go_wp2)
                        go_ret
                        exact ⟨by first | rfl | (simp [errW_none, errW_some] <;> rfl) | (simp [*, errW_none, errW_some] <;> rfl), by repeat (first | (with_reducible first | exact HB.out | apply below_alloc | apply pw_below_drewN | apply below_drew1) | exact HB.out)⟩
                      · replace c40 := Bool.eq_false_iff.mpr c40
                        subst c40
                        have H1 : ((codec_Int.f kj29 t135 t152).bind fun bt154 => (if 0 ≤ (wrap64 (t152 - 1)) then (if (wrap64 (t152 - 1)) ≤ (t135.length : Int) then ((codec_Int.f kj29 (t135.take ((wrap64 (t152 - 1)) : Int).toNat) (l2.length : Int)).bind fun bt161 => (if bt154.2.2 = 0 then (if bt154.1 = a1 then (if bt154.2.1 = (t135.length : Int) then (if bt161.2.2 = 2 then ((shapesearchlaw03_awake.f kj29).bind fun t164 => (some t164)) else (some false)) else (some false)) else (some false)) else (some false))) else (none)) else (none))) = some r := by rw [if_neg (show ¬ (false = true) by decide)] at H; exact H
                        clear H
                        have H := H1
                        clear H1
                        replace H := Option.bind_eq_some_iff.mp H
                        obtain ⟨⟨t154, t155, t156⟩, A410, H⟩ := H
                        replace H : (if 0 ≤ (wrap64 (t152 - 1)) then (if (wrap64 (t152 - 1)) ≤ (t135.length : Int) then ((codec_Int.f kj29 (t135.take ((wrap64 (t152 - 1)) : Int).toNat) (l2.length : Int)).bind fun bt161 => (if t156 = 0 then (if t154 = a1 then (if t155 = (t135.length : Int) then (if bt161.2.2 = 2 then ((shapesearchlaw03_awake.f kj29).bind fun t164 => (some t164)) else (some false)) else (some false)) else (some false)) else (some false))) else (none)) else (none)) = some r := H
                        have A41 := Aside0.mk A410
                        clear A410
                        obtain ⟨ji42, hji42⟩ : ∃ j_ : Int, (wrap64 (t152 - 1)) = j_ := ⟨_, rfl⟩
                        replace H : (if 0 ≤ (ji42) then (if (ji42) ≤ (t135.length : Int) then ((codec_Int.f kj29 (t135.take ((ji42) : Int).toNat) (l2.length : Int)).bind fun bt161 => (if t156 = 0 then (if t154 = a1 then (if t155 = (t135.length : Int) then (if bt161.2.2 = 2 then ((shapesearchlaw03_awake.f kj29).bind fun t164 => (some t164)) else (some false)) else (some false)) else (some false)) else (some false))) else (none)) else (none)) = some r := by first | (rw [hji42] at H; exact H) | (simp only [hji42] at H ⊢; exact H)
                        (try rw [hji42] at A41)
                        have hji42w : (IntKind.i64.wrap (t152 - 1)) = ji42 := (i64_w _).trans hji42
                        by_cases c43 : 0 ≤ (ji42)
                        · rw [if_pos c43] at H
                          have c43b0 := eq_true c43
                          have c43b1 : decide (0 ≤ (ji42)) = true := decide_eq_true c43
                          clear c43
                          by_cases c44 : (ji42) ≤ (t135.length : Int)
                          · rw [if_pos c44] at H
                            have c44b0 := eq_true c44
                            have c44b1 : decide ((ji42) ≤ (t135.length : Int)) = true := decide_eq_true c44
                            clear c44
                            obtain ⟨y157, hy157⟩ : ∃ y_ : List Int, y_ = (t135.take ((ji42) : Int).toNat) := ⟨_, rfl⟩
                            replace H : ((codec_Int.f kj29 y157 (l2.length : Int)).bind fun bt161 => (if t156 = 0 then (if t154 = a1 then (if t155 = (t135.length : Int) then (if bt161.2.2 = 2 then ((shapesearchlaw03_awake.f kj29).bind fun t164 => (some t164)) else (some false)) else (some false)) else (some false)) else (some false))) = some r := by first | (rw [hy157]; with_reducible exact H) | (have H2_ := (Option.bind_some _ _).symm.trans H; rw [hy157]; with_reducible exact H2_) | (have H2_ := (Option.bind_some _ _).symm.trans H; with_reducible exact H2_) | with_reducible exact H | (rw [hy157]; exact H) | exact H
                            have Ny157 := Aside0.mk hy157
                            clear hy157
                            replace H := Option.bind_eq_some_iff.mp H
                            obtain ⟨⟨t161, t162, t163⟩, A450, H⟩ := H
                            replace H : (if t156 = 0 then (if t154 = a1 then (if t155 = (t135.length : Int) then (if t163 = 2 then ((shapesearchlaw03_awake.f kj29).bind fun t164 => (some t164)) else (some false)) else (some false)) else (some false)) else (some false)) = some r := H
                            have A45 := Aside0.mk A450
                            clear A450
                            by_cases c46 : t156 = 0
                            · rw [if_pos c46] at H
                              have c46b0 : (t156 == 0) = true := beq_iff_eq.mpr c46
                              have c46b1 : (t156 != 0) = false := bne_eq_false_iff_eq.mpr c46
                              clear c46
                              by_cases c47 : t154 = a1
                              · rw [if_pos c47] at H
                                have c47b0 : (t154 == a1) = true := beq_iff_eq.mpr c47
                                have c47b1 : (t154 != a1) = false := bne_eq_false_iff_eq.mpr c47
                                clear c47
                                by_cases c48 : t155 = (t135.length : Int)
                                · rw [if_pos c48] at H
                                  have c48b0 : (t155 == (t135.length : Int)) = true := beq_iff_eq.mpr c48
                                  have c48b1 : (t155 != (t135.length : Int)) = false := bne_eq_false_iff_eq.mpr c48
                                  clear c48
                                  by_cases c49 : t163 = 2
                                  · rw [if_pos c49] at H
                                    have c49b0 : (t163 == 2) = true := beq_iff_eq.mpr c49
                                    have c49b1 : (t163 != 2) = false := bne_eq_false_iff_eq.mpr c49
                                    clear c49
                                    replace H := Option.bind_eq_some_iff.mp H
                                    obtain ⟨t164, A500, H⟩ := H
                                    replace H : (some t164) = some r := H
                                    have A50 := Aside0.mk A500
                                    clear A500
                                    obtain rfl := Option.some.inj H
                                    go_wp2_with (first | (go_at_call 11; (with_reducible refine (codec_Int.calls kj29 _ _ t135 t152 t154 t155 t156 _ ?side1 ?side2 A41.out).mono ?_); (case side1 => repeat (first | exact (Kd.R_reads' HO_9.out).2.2 | (with_reducible refine Kd.C_alloc ?_ _) | (with_reducible refine Kd.C_drewN ?_ _) | (with_reducible refine Kd.C_drew ?_))); (case side2 => exact (Kd.R_reads' HO_9.out).2.1); rintro e w' ⟨rfl, ⟨nd, rfl⟩⟩; (try first | exact ⟨rfl, _, World.drewN_drewN _ _ _⟩ | exact ⟨rfl, _, Eq.trans (World.drewN_drewN _ _ _) (congrArg (World.drewN _) (Nat.add_assoc _ _ _))⟩); have q51 : ((ji42) : Int) ≤ ((t135.length : Int) : Int) := of_decide_eq_true (by first | (with_reducible assumption) | assumption); obtain ⟨i051, hi051, _, hsz51, _⟩ := info_parts info5; have hroom51 : t135.length ≤ co34 := (Kd.R_reads' HO_9.out).2.1; have hC51 : Kd.C (Kd.int .u8) _ Ao34 t135.length t135 := (Kd.R_reads' HO_9.out).2.2; have hcut51 := cut_to (P := Try.prog) 22 5 .i64 Try.underlying22 hi051 Ao34 t135.length co34 (ji42) (of_decide_eq_true (by first | (with_reducible assumption) | assumption)) q51 hroom51; have hr51 := Kd.C_take (m := ((ji42) : Int).toNat) hC51 (by omega); have hy51 : y157.length = ((ji42) : Int).toNat := (by rw [Ny157.out, List.length_take]; omega); rw [← Ny157.out] at hr51; rw [← hy51] at hcut51; have HR160 := Aside0.mk hr51; have HC160 := Aside0.mk (show y157.length ≤ co34 from by omega); clear hr51 hC51 hroom51 hi051 hsz51; have KY51 := Aside0.mk hy51; clear hy51; have KL51 := Aside0.mk (show ((ji42) : Int).toNat ≤ t135.length from by omega); replace q51 := eq_true q51) | (go_at_call 11; (with_reducible refine (codec_Int.calls kj29 _ _ y157 (l2.length : Int) t161 t162 t163 _ ?side1 ?side2 A45.out).mono ?_); (case side1 => repeat (first | exact (by repeat (first | (with_reducible exact HR160.out) | (with_reducible refine Kd.C_alloc ?_ _) | (with_reducible refine Kd.C_drewN ?_ _) | (with_reducible refine Kd.C_drew ?_) | exact HR160.out)) | (with_reducible refine Kd.C_alloc ?_ _) | (with_reducible refine Kd.C_drewN ?_ _) | (with_reducible refine Kd.C_drew ?_))); (case side2 => exact HC160.out); rintro e w' ⟨rfl, ⟨nd, rfl⟩⟩; (try first | exact ⟨rfl, _, World.drewN_drewN _ _ _⟩ | exact ⟨rfl, _, Eq.trans (World.drewN_drewN _ _ _) (congrArg (World.drewN _) (Nat.add_assoc _ _ _))⟩)) | (go_at_call 9; (with_reducible refine (shapesearchlaw03_awake.calls kj29  t164 _ A50.out).mono ?_); rintro e w52 ⟨rfl, hb⟩; have n0_ := Aside0.mk (Kd.R_below (by (with_reducible repeat (first | apply Kd.R_alloc | apply Kd.R_drewN | apply Kd.R_drew)); exact HO_9.out) hb); have n1_ := Aside0.mk (Kd.C_below (by repeat (first | (with_reducible exact HR160.out) | (with_reducible refine Kd.C_alloc ?_ _) | (with_reducible refine Kd.C_drewN ?_ _) | (with_reducible refine Kd.C_drew ?_) | exact HR160.out)) hb); have n2_ := Aside0.mk (below_step (by repeat (first | (with_reducible first | exact HB.out | apply below_alloc | apply pw_below_drewN | apply below_drew1) | exact HB.out)) hb); clear HO_9; clear HR160; clear HB; have HO_9 := n0_; have HR160 := n1_; have HB := n2_; clear n0_ n1_ n2_; (try clear hb); (try clear hb2); (try clear hk); (try clear hi)))
                                    repeat (go_quiet (first | (go_at_call 11; (with_reducible refine (codec_Int.calls kj29 _ _ t135 t152 t154 t155 t156 _ ?side1 ?side2 A41.out).mono ?_); (case side1 => repeat (first | exact (Kd.R_reads' HO_9.out).2.2 | (with_reducible refine Kd.C_alloc ?_ _) | (with_reducible refine Kd.C_drewN ?_ _) | (with_reducible refine Kd.C_drew ?_))); (case side2 => exact (Kd.R_reads' HO_9.out).2.1); rintro e w' ⟨rfl, ⟨nd, rfl⟩⟩; (try first | exact ⟨rfl, _, World.drewN_drewN _ _ _⟩ | exact ⟨rfl, _, Eq.trans (World.drewN_drewN _ _ _) (congrArg (World.drewN _) (Nat.add_assoc _ _ _))⟩); have q51 : ((ji42) : Int) ≤ ((t135.length : Int) : Int) := of_decide_eq_true (by first | (with_reducible assumption) | assumption); obtain ⟨i051, hi051, _, hsz51, _⟩ := info_parts info5; have hroom51 : t135.length ≤ co34 := (Kd.R_reads' HO_9.out).2.1; have hC51 : Kd.C (Kd.int .u8) _ Ao34 t135.length t135 := (Kd.R_reads' HO_9.out).2.2; have hcut51 := cut_to (P := Try.prog) 22 5 .i64 Try.underlying22 hi051 Ao34 t135.length co34 (ji42) (of_decide_eq_true (by first | (with_reducible assumption) | assumption)) q51 hroom51; have hr51 := Kd.C_take (m := ((ji42) : Int).toNat) hC51 (by omega); have hy51 : y157.length = ((ji42) : Int).toNat := (by rw [Ny157.out, List.length_take]; omega); rw [← Ny157.out] at hr51; rw [← hy51] at hcut51; have HR160 := Aside0.mk hr51; have HC160 := Aside0.mk (show y157.length ≤ co34 from by omega); clear hr51 hC51 hroom51 hi051 hsz51; have KY51 := Aside0.mk hy51; clear hy51; have KL51 := Aside0.mk (show ((ji42) : Int).toNat ≤ t135.length from by omega); replace q51 := eq_true q51) | (go_at_call 11; (with_reducible refine (codec_Int.calls kj29 _ _ y157 (l2.length : Int) t161 t162 t163 _ ?side1 ?side2 A45.out).mono ?_); (case side1 => repeat (first | exact (by repeat (first | (with_reducible exact HR160.out) | (with_reducible refine Kd.C_alloc ?_ _) | (with_reducible refine Kd.C_drewN ?_ _) | (with_reducible refine Kd.C_drew ?_) | exact HR160.out)) | (with_reducible refine Kd.C_alloc ?_ _) | (with_reducible refine Kd.C_drewN ?_ _) | (with_reducible refine Kd.C_drew ?_))); (case side2 => exact HC160.out); rintro e w' ⟨rfl, ⟨nd, rfl⟩⟩; (try first | exact ⟨rfl, _, World.drewN_drewN _ _ _⟩ | exact ⟨rfl, _, Eq.trans (World.drewN_drewN _ _ _) (congrArg (World.drewN _) (Nat.add_assoc _ _ _))⟩)) | (go_at_call 9; (with_reducible refine (shapesearchlaw03_awake.calls kj29  t164 _ A50.out).mono ?_); rintro e w52 ⟨rfl, hb⟩; have n0_ := Aside0.mk (Kd.R_below (by (with_reducible repeat (first | apply Kd.R_alloc | apply Kd.R_drewN | apply Kd.R_drew)); exact HO_9.out) hb); have n1_ := Aside0.mk (Kd.C_below (by repeat (first | (with_reducible exact HR160.out) | (with_reducible refine Kd.C_alloc ?_ _) | (with_reducible refine Kd.C_drewN ?_ _) | (with_reducible refine Kd.C_drew ?_) | exact HR160.out)) hb); have n2_ := Aside0.mk (below_step (by repeat (first | (with_reducible first | exact HB.out | apply below_alloc | apply pw_below_drewN | apply below_drew1) | exact HB.out)) hb); clear HO_9; clear HR160; clear HB; have HO_9 := n0_; have HR160 := n1_; have HB := n2_; clear n0_ n1_ n2_; (try clear hb); (try clear hb2); (try clear hk); (try clear hi))); try go_wp2_with (first | (go_at_call 11; (with_reducible refine (codec_Int.calls kj29 _ _ t135 t152 t154 t155 t156 _ ?side1 ?side2 A41.out).mono ?_); (case side1 => repeat (first | exact (Kd.R_reads' HO_9.out).2.2 | (with_reducible refine Kd.C_alloc ?_ _) | (with_reducible refine Kd.C_drewN ?_ _) | (with_reducible refine Kd.C_drew ?_))); (case side2 => exact (Kd.R_reads' HO_9.out).2.1); rintro e w' ⟨rfl, ⟨nd, rfl⟩⟩; (try first | exact ⟨rfl, _, World.drewN_drewN _ _ _⟩ | exact ⟨rfl, _, Eq.trans (World.drewN_drewN _ _ _) (congrArg (World.drewN _) (Nat.add_assoc _ _ _))⟩); have q51 : ((ji42) : Int) ≤ ((t135.length : Int) : Int) := of_decide_eq_true (by first | (with_reducible assumption) | assumption); obtain ⟨i051, hi051, _, hsz51, _⟩ := info_parts info5; have hroom51 : t135.length ≤ co34 := (Kd.R_reads' HO_9.out).2.1; have hC51 : Kd.C (Kd.int .u8) _ Ao34 t135.length t135 := (Kd.R_reads' HO_9.out).2.2; have hcut51 := cut_to (P := Try.prog) 22 5 .i64 Try.underlying22 hi051 Ao34 t135.length co34 (ji42) (of_decide_eq_true (by first | (with_reducible assumption) | assumption)) q51 hroom51; have hr51 := Kd.C_take (m := ((ji42) : Int).toNat) hC51 (by omega); have hy51 : y157.length = ((ji42) : Int).toNat := (by rw [Ny157.out, List.length_take]; omega); rw [← Ny157.out] at hr51; rw [← hy51] at hcut51; have HR160 := Aside0.mk hr51; have HC160 := Aside0.mk (show y157.length ≤ co34 from by omega); clear hr51 hC51 hroom51 hi051 hsz51; have KY51 := Aside0.mk hy51; clear hy51; have KL51 := Aside0.mk (show ((ji42) : Int).toNat ≤ t135.length from by omega); replace q51 := eq_true q51) | (go_at_call 11; (with_reducible refine (codec_Int.calls kj29 _ _ y157 (l2.length : Int) t161 t162 t163 _ ?side1 ?side2 A45.out).mono ?_); (case side1 => repeat (first | exact (by repeat (first | (with_reducible exact HR160.out) | (with_reducible refine Kd.C_alloc ?_ _) | (with_reducible refine Kd.C_drewN ?_ _) | (with_reducible refine Kd.C_drew ?_) | exact HR160.out)) | (with_reducible refine Kd.C_alloc ?_ _) | (with_reducible refine Kd.C_drewN ?_ _) | (with_reducible refine Kd.C_drew ?_))); (case side2 => exact HC160.out); rintro e w' ⟨rfl, ⟨nd, rfl⟩⟩; (try first | exact ⟨rfl, _, World.drewN_drewN _ _ _⟩ | exact ⟨rfl, _, Eq.trans (World.drewN_drewN _ _ _) (congrArg (World.drewN _) (Nat.add_assoc _ _ _))⟩)) | (go_at_call 9; (with_reducible refine (shapesearchlaw03_awake.calls kj29  t164 _ A50.out).mono ?_); rintro e w52 ⟨rfl, hb⟩; have n0_ := Aside0.mk (Kd.R_below (by (with_reducible repeat (first | apply Kd.R_alloc | apply Kd.R_drewN | apply Kd.R_drew)); exact HO_9.out) hb); have n1_ := Aside0.mk (Kd.C_below (by repeat (first | (with_reducible exact HR160.out) | (with_reducible refine Kd.C_alloc ?_ _) | (with_reducible refine Kd.C_drewN ?_ _) | (with_reducible refine Kd.C_drew ?_) | exact HR160.out)) hb); have n2_ := Aside0.mk (below_step (by repeat (first | (with_reducible first | exact HB.out | apply below_alloc | apply pw_below_drewN | apply below_drew1) | exact HB.out)) hb); clear HO_9; clear HR160; clear HB; have HO_9 := n0_; have HR160 := n1_; have HB := n2_; clear n0_ n1_ n2_; (try clear hb); (try clear hb2); (try clear hk); (try clear hi))))
                                    go_ret
                                    exact ⟨by first | rfl | (simp [errW_none, errW_some] <;> rfl) | (simp only [← hji42]; first | rfl | (simp [errW_none, errW_some] <;> rfl)) | (simp [*, errW_none, errW_some] <;> rfl), by repeat (first | (with_reducible first | exact HB.out | apply below_alloc | apply pw_below_drewN | apply below_drew1) | exact HB.out)⟩
                                  · rw [if_neg c49] at H
                                    have c49b0 : (t163 == 2) = false := beq_eq_false_iff_ne.mpr c49
                                    have c49b1 : (t163 != 2) = true := bne_iff_ne.mpr c49
                                    obtain rfl := Option.some.inj H
                                    go_wp2_with (first | (go_at_call 11; (with_reducible refine (codec_Int.calls kj29 _ _ t135 t152 t154 t155 t156 _ ?side1 ?side2 A41.out).mono ?_); (case side1 => repeat (first | exact (Kd.R_reads' HO_9.out).2.2 | (with_reducible refine Kd.C_alloc ?_ _) | (with_reducible refine Kd.C_drewN ?_ _) | (with_reducible refine Kd.C_drew ?_))); (case side2 => exact (Kd.R_reads' HO_9.out).2.1); rintro e w' ⟨rfl, ⟨nd, rfl⟩⟩; (try first | exact ⟨rfl, _, World.drewN_drewN _ _ _⟩ | exact ⟨rfl, _, Eq.trans (World.drewN_drewN _ _ _) (congrArg (World.drewN _) (Nat.add_assoc _ _ _))⟩); have q53 : ((ji42) : Int) ≤ ((t135.length : Int) : Int) := of_decide_eq_true (by first | (with_reducible assumption) | assumption); obtain ⟨i053, hi053, _, hsz53, _⟩ := info_parts info5; have hroom53 : t135.length ≤ co34 := (Kd.R_reads' HO_9.out).2.1; have hC53 : Kd.C (Kd.int .u8) _ Ao34 t135.length t135 := (Kd.R_reads' HO_9.out).2.2; have hcut53 := cut_to (P := Try.prog) 22 5 .i64 Try.underlying22 hi053 Ao34 t135.length co34 (ji42) (of_decide_eq_true (by first | (with_reducible assumption) | assumption)) q53 hroom53; have hr53 := Kd.C_take (m := ((ji42) : Int).toNat) hC53 (by omega); have hy53 : y157.length = ((ji42) : Int).toNat := (by rw [Ny157.out, List.length_take]; omega); rw [← Ny157.out] at hr53; rw [← hy53] at hcut53; have HR160 := Aside0.mk hr53; have HC160 := Aside0.mk (show y157.length ≤ co34 from by omega); clear hr53 hC53 hroom53 hi053 hsz53; have KY53 := Aside0.mk hy53; clear hy53; have KL53 := Aside0.mk (show ((ji42) : Int).toNat ≤ t135.length from by omega); replace q53 := eq_true q53) | (go_at_call 11; (with_reducible refine (codec_Int.calls kj29 _ _ y157 (l2.length : Int) t161 t162 t163 _ ?side1 ?side2 A45.out).mono ?_); (case side1 => repeat (first | exact (by repeat (first | (with_reducible exact HR160.out) | (with_reducible refine Kd.C_alloc ?_ _) | (with_reducible refine Kd.C_drewN ?_ _) | (with_reducible refine Kd.C_drew ?_) | exact HR160.out)) | (with_reducible refine Kd.C_alloc ?_ _) | (with_reducible refine Kd.C_drewN ?_ _) | (with_reducible refine Kd.C_drew ?_))); (case side2 => exact HC160.out); rintro e w' ⟨rfl, ⟨nd, rfl⟩⟩; (try first | exact ⟨rfl, _, World.drewN_drewN _ _ _⟩ | exact ⟨rfl, _, Eq.trans (World.drewN_drewN _ _ _) (congrArg (World.drewN _) (Nat.add_assoc _ _ _))⟩)))
                                    repeat (go_quiet (first | (go_at_call 11; (with_reducible refine (codec_Int.calls kj29 _ _ t135 t152 t154 t155 t156 _ ?side1 ?side2 A41.out).mono ?_); (case side1 => repeat (first | exact (Kd.R_reads' HO_9.out).2.2 | (with_reducible refine Kd.C_alloc ?_ _) | (with_reducible refine Kd.C_drewN ?_ _) | (with_reducible refine Kd.C_drew ?_))); (case side2 => exact (Kd.R_reads' HO_9.out).2.1); rintro e w' ⟨rfl, ⟨nd, rfl⟩⟩; (try first | exact ⟨rfl, _, World.drewN_drewN _ _ _⟩ | exact ⟨rfl, _, Eq.trans (World.drewN_drewN _ _ _) (congrArg (World.drewN _) (Nat.add_assoc _ _ _))⟩); have q53 : ((ji42) : Int) ≤ ((t135.length : Int) : Int) := of_decide_eq_true (by first | (with_reducible assumption) | assumption); obtain ⟨i053, hi053, _, hsz53, _⟩ := info_parts info5; have hroom53 : t135.length ≤ co34 := (Kd.R_reads' HO_9.out).2.1; have hC53 : Kd.C (Kd.int .u8) _ Ao34 t135.length t135 := (Kd.R_reads' HO_9.out).2.2; have hcut53 := cut_to (P := Try.prog) 22 5 .i64 Try.underlying22 hi053 Ao34 t135.length co34 (ji42) (of_decide_eq_true (by first | (with_reducible assumption) | assumption)) q53 hroom53; have hr53 := Kd.C_take (m := ((ji42) : Int).toNat) hC53 (by omega); have hy53 : y157.length = ((ji42) : Int).toNat := (by rw [Ny157.out, List.length_take]; omega); rw [← Ny157.out] at hr53; rw [← hy53] at hcut53; have HR160 := Aside0.mk hr53; have HC160 := Aside0.mk (show y157.length ≤ co34 from by omega); clear hr53 hC53 hroom53 hi053 hsz53; have KY53 := Aside0.mk hy53; clear hy53; have KL53 := Aside0.mk (show ((ji42) : Int).toNat ≤ t135.length from by omega); replace q53 := eq_true q53) | (go_at_call 11; (with_reducible refine (codec_Int.calls kj29 _ _ y157 (l2.length : Int) t161 t162 t163 _ ?side1 ?side2 A45.out).mono ?_); (case side1 => repeat (first | exact (by repeat (first | (with_reducible exact HR160.out) | (with_reducible refine Kd.C_alloc ?_ _) | (with_reducible refine Kd.C_drewN ?_ _) | (with_reducible refine Kd.C_drew ?_) | exact HR160.out)) | (with_reducible refine Kd.C_alloc ?_ _) | (with_reducible refine Kd.C_drewN ?_ _) | (with_reducible refine Kd.C_drew ?_))); (case side2 => exact HC160.out); rintro e w' ⟨rfl, ⟨nd, rfl⟩⟩; (try first | exact ⟨rfl, _, World.drewN_drewN _ _ _⟩ | exact ⟨rfl, _, Eq.trans (World.drewN_drewN _ _ _) (congrArg (World.drewN _) (Nat.add_assoc _ _ _))⟩))); try go_wp2_with (first | (go_at_call 11; (with_reducible refine (codec_Int.calls kj29 _ _ t135 t152 t154 t155 t156 _ ?side1 ?side2 A41.out).mono ?_); (case side1 => repeat (first | exact (Kd.R_reads' HO_9.out).2.2 | (with_reducible refine Kd.C_alloc ?_ _) | (with_reducible refine Kd.C_drewN ?_ _) | (with_reducible refine Kd.C_drew ?_))); (case side2 => exact (Kd.R_reads' HO_9.out).2.1); rintro e w' ⟨rfl, ⟨nd, rfl⟩⟩; (try first | exact ⟨rfl, _, World.drewN_drewN _ _ _⟩ | exact ⟨rfl, _, Eq.trans (World.drewN_drewN _ _ _) (congrArg (World.drewN _) (Nat.add_assoc _ _ _))⟩); have q53 : ((ji42) : Int) ≤ ((t135.length : Int) : Int) := of_decide_eq_true (by first | (with_reducible assumption) | assumption); obtain ⟨i053, hi053, _, hsz53, _⟩ := info_parts info5; have hroom53 : t135.length ≤ co34 := (Kd.R_reads' HO_9.out).2.1; have hC53 : Kd.C (Kd.int .u8) _ Ao34 t135.length t135 := (Kd.R_reads' HO_9.out).2.2; have hcut53 := cut_to (P := Try.prog) 22 5 .i64 Try.underlying22 hi053 Ao34 t135.length co34 (ji42) (of_decide_eq_true (by first | (with_reducible assumption) | assumption)) q53 hroom53; have hr53 := Kd.C_take (m := ((ji42) : Int).toNat) hC53 (by omega); have hy53 : y157.length = ((ji42) : Int).toNat := (by rw [Ny157.out, List.length_take]; omega); rw [← Ny157.out] at hr53; rw [← hy53] at hcut53; have HR160 := Aside0.mk hr53; have HC160 := Aside0.mk (show y157.length ≤ co34 from by omega); clear hr53 hC53 hroom53 hi053 hsz53; have KY53 := Aside0.mk hy53; clear hy53; have KL53 := Aside0.mk (show ((ji42) : Int).toNat ≤ t135.length from by omega); replace q53 := eq_true q53) | (go_at_call 11; (with_reducible refine (codec_Int.calls kj29 _ _ y157 (l2.length : Int) t161 t162 t163 _ ?side1 ?side2 A45.out).mono ?_); (case side1 => repeat (first | exact (by repeat (first | (with_reducible exact HR160.out) | (with_reducible refine Kd.C_alloc ?_ _) | (with_reducible refine Kd.C_drewN ?_ _) | (with_reducible refine Kd.C_drew ?_) | exact HR160.out)) | (with_reducible refine Kd.C_alloc ?_ _) | (with_reducible refine Kd.C_drewN ?_ _) | (with_reducible refine Kd.C_drew ?_))); (case side2 => exact HC160.out); rintro e w' ⟨rfl, ⟨nd, rfl⟩⟩; (try first | exact ⟨rfl, _, World.drewN_drewN _ _ _⟩ | exact ⟨rfl, _, Eq.trans (World.drewN_drewN _ _ _) (congrArg (World.drewN _) (Nat.add_assoc _ _ _))⟩))))
                                    go_ret
                                    exact ⟨by first | rfl | (simp [errW_none, errW_some] <;> rfl) | (simp only [← hji42]; first | rfl | (simp [errW_none, errW_some] <;> rfl)) | (simp [*, errW_none, errW_some] <;> rfl), by repeat (first | (with_reducible first | exact HB.out | apply below_alloc | apply pw_below_drewN | apply below_drew1) | exact HB.out)⟩
                                · rw [if_neg c48] at H
                                  have c48b0 : (t155 == (t135.length : Int)) = false := beq_eq_false_iff_ne.mpr c48
                                  have c48b1 : (t155 != (t135.length : Int)) = true := bne_iff_ne.mpr c48
                                  obtain rfl := Option.some.inj H
                                  go_wp2_with (first | (go_at_call 11; (with_reducible refine (codec_Int.calls kj29 _ _ t135 t152 t154 t155 t156 _ ?side1 ?side2 A41.out).mono ?_); (case side1 => repeat (first | exact (Kd.R_reads' HO_9.out).2.2 | (with_reducible refine Kd.C_alloc ?_ _) | (with_reducible refine Kd.C_drewN ?_ _) | (with_reducible refine Kd.C_drew ?_))); (case side2 => exact (Kd.R_reads' HO_9.out).2.1); rintro e w' ⟨rfl, ⟨nd, rfl⟩⟩; (try first | exact ⟨rfl, _, World.drewN_drewN _ _ _⟩ | exact ⟨rfl, _, Eq.trans (World.drewN_drewN _ _ _) (congrArg (World.drewN _) (Nat.add_assoc _ _ _))⟩); have q54 : ((ji42) : Int) ≤ ((t135.length : Int) : Int) := of_decide_eq_true (by first | (with_reducible assumption) | assumption); obtain ⟨i054, hi054, _, hsz54, _⟩ := info_parts info5; have hroom54 : t135.length ≤ co34 := (Kd.R_reads' HO_9.out).2.1; have hC54 : Kd.C (Kd.int .u8) _ Ao34 t135.length t135 := (Kd.R_reads' HO_9.out).2.2; have hcut54 := cut_to (P := Try.prog) 22 5 .i64 Try.underlying22 hi054 Ao34 t135.length co34 (ji42) (of_decide_eq_true (by first | (with_reducible assumption) | assumption)) q54 hroom54; have hr54 := Kd.C_take (m := ((ji42) : Int).toNat) hC54 (by omega); have hy54 : y157.length = ((ji42) : Int).toNat := (by rw [Ny157.out, List.length_take]; omega); rw [← Ny157.out] at hr54; rw [← hy54] at hcut54; have HR160 := Aside0.mk hr54; have HC160 := Aside0.mk (show y157.length ≤ co34 from by omega); clear hr54 hC54 hroom54 hi054 hsz54; have KY54 := Aside0.mk hy54; clear hy54; have KL54 := Aside0.mk (show ((ji42) : Int).toNat ≤ t135.length from by omega); replace q54 := eq_true q54) | (go_at_call 11; (with_reducible refine (codec_Int.calls kj29 _ _ y157 (l2.length : Int) t161 t162 t163 _ ?side1 ?side2 A45.out).mono ?_); (case side1 => repeat (first | exact (by repeat (first | (with_reducible exact HR160.out) | (with_reducible refine Kd.C_alloc ?_ _) | (with_reducible refine Kd.C_drewN ?_ _) | (with_reducible refine Kd.C_drew ?_) | exact HR160.out)) | (with_reducible refine Kd.C_alloc ?_ _) | (with_reducible refine Kd.C_drewN ?_ _) | (with_reducible refine Kd.C_drew ?_))); (case side2 => exact HC160.out); rintro e w' ⟨rfl, ⟨nd, rfl⟩⟩; (try first | exact ⟨rfl, _, World.drewN_drewN _ _ _⟩ | exact ⟨rfl, _, Eq.trans (World.drewN_drewN _ _ _) (congrArg (World.drewN _) (Nat.add_assoc _ _ _))⟩)))
                                  repeat (go_quiet (first | (go_at_call 11; (with_reducible refine (codec_Int.calls kj29 _ _ t135 t152 t154 t155 t156 _ ?side1 ?side2 A41.out).mono ?_); (case side1 => repeat (first | exact (Kd.R_reads' HO_9.out).2.2 | (with_reducible refine Kd.C_alloc ?_ _) | (with_reducible refine Kd.C_drewN ?_ _) | (with_reducible refine Kd.C_drew ?_))); (case side2 => exact (Kd.R_reads' HO_9.out).2.1); rintro e w' ⟨rfl, ⟨nd, rfl⟩⟩; (try first | exact ⟨rfl, _, World.drewN_drewN _ _ _⟩ | exact ⟨rfl, _, Eq.trans (World.drewN_drewN _ _ _) (congrArg (World.drewN _) (Nat.add_assoc _ _ _))⟩); have q54 : ((ji42) : Int) ≤ ((t135.length : Int) : Int) := of_decide_eq_true (by first | (with_reducible assumption) | assumption); obtain ⟨i054, hi054, _, hsz54, _⟩ := info_parts info5; have hroom54 : t135.length ≤ co34 := (Kd.R_reads' HO_9.out).2.1; have hC54 : Kd.C (Kd.int .u8) _ Ao34 t135.length t135 := (Kd.R_reads' HO_9.out).2.2; have hcut54 := cut_to (P := Try.prog) 22 5 .i64 Try.underlying22 hi054 Ao34 t135.length co34 (ji42) (of_decide_eq_true (by first | (with_reducible assumption) | assumption)) q54 hroom54; have hr54 := Kd.C_take (m := ((ji42) : Int).toNat) hC54 (by omega); have hy54 : y157.length = ((ji42) : Int).toNat := (by rw [Ny157.out, List.length_take]; omega); rw [← Ny157.out] at hr54; rw [← hy54] at hcut54; have HR160 := Aside0.mk hr54; have HC160 := Aside0.mk (show y157.length ≤ co34 from by omega); clear hr54 hC54 hroom54 hi054 hsz54; have KY54 := Aside0.mk hy54; clear hy54; have KL54 := Aside0.mk (show ((ji42) : Int).toNat ≤ t135.length from by omega); replace q54 := eq_true q54) | (go_at_call 11; (with_reducible refine (codec_Int.calls kj29 _ _ y157 (l2.length : Int) t161 t162 t163 _ ?side1 ?side2 A45.out).mono ?_); (case side1 => repeat (first | exact (by repeat (first | (with_reducible exact HR160.out) | (with_reducible refine Kd.C_alloc ?_ _) | (with_reducible refine Kd.C_drewN ?_ _) | (with_reducible refine Kd.C_drew ?_) | exact HR160.out)) | (with_reducible refine Kd.C_alloc ?_ _) | (with_reducible refine Kd.C_drewN ?_ _) | (with_reducible refine Kd.C_drew ?_))); (case side2 => exact HC160.out); rintro e w' ⟨rfl, ⟨nd, rfl⟩⟩; (try first | exact ⟨rfl, _, World.drewN_drewN _ _ _⟩ | exact ⟨rfl, _, Eq.trans (World.drewN_drewN _ _ _) (congrArg (World.drewN _) (Nat.add_assoc _ _ _))⟩))); try go_wp2_with (first | (go_at_call 11; (with_reducible refine (codec_Int.calls kj29 _ _ t135 t152 t154 t155 t156 _ ?side1 ?side2 A41.out).mono ?_); (case side1 => repeat (first | exact (Kd.R_reads' HO_9.out).2.2 | (with_reducible refine Kd.C_alloc ?_ _) | (with_reducible refine Kd.C_drewN ?_ _) | (with_reducible refine Kd.C_drew ?_))); (case side2 => exact (Kd.R_reads' HO_9.out).2.1); rintro e w' ⟨rfl, ⟨nd, rfl⟩⟩; (try first | exact ⟨rfl, _, World.drewN_drewN _ _ _⟩ | exact ⟨rfl, _, Eq.trans (World.drewN_drewN _ _ _) (congrArg (World.drewN _) (Nat.add_assoc _ _ _))⟩); have q54 : ((ji42) : Int) ≤ ((t135.length : Int) : Int) := of_decide_eq_true (by first | (with_reducible assumption) | assumption); obtain ⟨i054, hi054, _, hsz54, _⟩ := info_parts info5; have hroom54 : t135.length ≤ co34 := (Kd.R_reads' HO_9.out).2.1; have hC54 : Kd.C (Kd.int .u8) _ Ao34 t135.length t135 := (Kd.R_reads' HO_9.out).2.2; have hcut54 := cut_to (P := Try.prog) 22 5 .i64 Try.underlying22 hi054 Ao34 t135.length co34 (ji42) (of_decide_eq_true (by first | (with_reducible assumption) | assumption)) q54 hroom54; have hr54 := Kd.C_take (m := ((ji42) : Int).toNat) hC54 (by omega); have hy54 : y157.length = ((ji42) : Int).toNat := (by rw [Ny157.out, List.length_take]; omega); rw [← Ny157.out] at hr54; rw [← hy54] at hcut54; have HR160 := Aside0.mk hr54; have HC160 := Aside0.mk (show y157.length ≤ co34 from by omega); clear hr54 hC54 hroom54 hi054 hsz54; have KY54 := Aside0.mk hy54; clear hy54; have KL54 := Aside0.mk (show ((ji42) : Int).toNat ≤ t135.length from by omega); replace q54 := eq_true q54) | (go_at_call 11; (with_reducible refine (codec_Int.calls kj29 _ _ y157 (l2.length : Int) t161 t162 t163 _ ?side1 ?side2 A45.out).mono ?_); (case side1 => repeat (first | exact (by repeat (first | (with_reducible exact HR160.out) | (with_reducible refine Kd.C_alloc ?_ _) | (with_reducible refine Kd.C_drewN ?_ _) | (with_reducible refine Kd.C_drew ?_) | exact HR160.out)) | (with_reducible refine Kd.C_alloc ?_ _) | (with_reducible refine Kd.C_drewN ?_ _) | (with_reducible refine Kd.C_drew ?_))); (case side2 => exact HC160.out); rintro e w' ⟨rfl, ⟨nd, rfl⟩⟩; (try first | exact ⟨rfl, _, World.drewN_drewN _ _ _⟩ | exact ⟨rfl, _, Eq.trans (World.drewN_drewN _ _ _) (congrArg (World.drewN _) (Nat.add_assoc _ _ _))⟩))))
                                  go_ret
                                  exact ⟨by first | rfl | (simp [errW_none, errW_some] <;> rfl) | (simp only [← hji42]; first | rfl | (simp [errW_none, errW_some] <;> rfl)) | (simp [*, errW_none, errW_some] <;> rfl), by repeat (first | (with_reducible first | exact HB.out | apply below_alloc | apply pw_below_drewN | apply below_drew1) | exact HB.out)⟩
                              · rw [if_neg c47] at H
                                have c47b0 : (t154 == a1) = false := beq_eq_false_iff_ne.mpr c47
                                have c47b1 : (t154 != a1) = true := bne_iff_ne.mpr c47
                                obtain rfl := Option.some.inj H
                                go_wp2_with (first | (go_at_call 11; (with_reducible refine (codec_Int.calls kj29 _ _ t135 t152 t154 t155 t156 _ ?side1 ?side2 A41.out).mono ?_); (case side1 => repeat (first | exact (Kd.R_reads' HO_9.out).2.2 | (with_reducible refine Kd.C_alloc ?_ _) | (with_reducible refine Kd.C_drewN ?_ _) | (with_reducible refine Kd.C_drew ?_))); (case side2 => exact (Kd.R_reads' HO_9.out).2.1); rintro e w' ⟨rfl, ⟨nd, rfl⟩⟩; (try first | exact ⟨rfl, _, World.drewN_drewN _ _ _⟩ | exact ⟨rfl, _, Eq.trans (World.drewN_drewN _ _ _) (congrArg (World.drewN _) (Nat.add_assoc _ _ _))⟩); have q55 : ((ji42) : Int) ≤ ((t135.length : Int) : Int) := of_decide_eq_true (by first | (with_reducible assumption) | assumption); obtain ⟨i055, hi055, _, hsz55, _⟩ := info_parts info5; have hroom55 : t135.length ≤ co34 := (Kd.R_reads' HO_9.out).2.1; have hC55 : Kd.C (Kd.int .u8) _ Ao34 t135.length t135 := (Kd.R_reads' HO_9.out).2.2; have hcut55 := cut_to (P := Try.prog) 22 5 .i64 Try.underlying22 hi055 Ao34 t135.length co34 (ji42) (of_decide_eq_true (by first | (with_reducible assumption) | assumption)) q55 hroom55; have hr55 := Kd.C_take (m := ((ji42) : Int).toNat) hC55 (by omega); have hy55 : y157.length = ((ji42) : Int).toNat := (by rw [Ny157.out, List.length_take]; omega); rw [← Ny157.out] at hr55; rw [← hy55] at hcut55; have HR160 := Aside0.mk hr55; have HC160 := Aside0.mk (show y157.length ≤ co34 from by omega); clear hr55 hC55 hroom55 hi055 hsz55; have KY55 := Aside0.mk hy55; clear hy55; have KL55 := Aside0.mk (show ((ji42) : Int).toNat ≤ t135.length from by omega); replace q55 := eq_true q55) | (go_at_call 11; (with_reducible refine (codec_Int.calls kj29 _ _ y157 (l2.length : Int) t161 t162 t163 _ ?side1 ?side2 A45.out).mono ?_); (case side1 => repeat (first | exact (by repeat (first | (with_reducible exact HR160.out) | (with_reducible refine Kd.C_alloc ?_ _) | (with_reducible refine Kd.C_drewN ?_ _) | (with_reducible refine Kd.C_drew ?_) | exact HR160.out)) | (with_reducible refine Kd.C_alloc ?_ _) | (with_reducible refine Kd.C_drewN ?_ _) | (with_reducible refine Kd.C_drew ?_))); (case side2 => exact HC160.out); rintro e w' ⟨rfl, ⟨nd, rfl⟩⟩; (try first | exact ⟨rfl, _, World.drewN_drewN _ _ _⟩ | exact ⟨rfl, _, Eq.trans (World.drewN_drewN _ _ _) (congrArg (World.drewN _) (Nat.add_assoc _ _ _))⟩)))
                                repeat (go_quiet (first | (go_at_call 11; (with_reducible refine (codec_Int.calls kj29 _ _ t135 t152 t154 t155 t156 _ ?side1 ?side2 A41.out).mono ?_); (case side1 => repeat (first | exact (Kd.R_reads' HO_9.out).2.2 | (with_reducible refine Kd.C_alloc ?_ _) | (with_reducible refine Kd.C_drewN ?_ _) | (with_reducible refine Kd.C_drew ?_))); (case side2 => exact (Kd.R_reads' HO_9.out).2.1); rintro e w' ⟨rfl, ⟨nd, rfl⟩⟩; (try first | exact ⟨rfl, _, World.drewN_drewN _ _ _⟩ | exact ⟨rfl, _, Eq.trans (World.drewN_drewN _ _ _) (congrArg (World.drewN _) (Nat.add_assoc _ _ _))⟩); have q55 : ((ji42) : Int) ≤ ((t135.length : Int) : Int) := of_decide_eq_true (by first | (with_reducible assumption) | assumption); obtain ⟨i055, hi055, _, hsz55, _⟩ := info_parts info5; have hroom55 : t135.length ≤ co34 := (Kd.R_reads' HO_9.out).2.1; have hC55 : Kd.C (Kd.int .u8) _ Ao34 t135.length t135 := (Kd.R_reads' HO_9.out).2.2; have hcut55 := cut_to (P := Try.prog) 22 5 .i64 Try.underlying22 hi055 Ao34 t135.length co34 (ji42) (of_decide_eq_true (by first | (with_reducible assumption) | assumption)) q55 hroom55; have hr55 := Kd.C_take (m := ((ji42) : Int).toNat) hC55 (by omega); have hy55 : y157.length = ((ji42) : Int).toNat := (by rw [Ny157.out, List.length_take]; omega); rw [← Ny157.out] at hr55; rw [← hy55] at hcut55; have HR160 := Aside0.mk hr55; have HC160 := Aside0.mk (show y157.length ≤ co34 from by omega); clear hr55 hC55 hroom55 hi055 hsz55; have KY55 := Aside0.mk hy55; clear hy55; have KL55 := Aside0.mk (show ((ji42) : Int).toNat ≤ t135.length from by omega); replace q55 := eq_true q55) | (go_at_call 11; (with_reducible refine (codec_Int.calls kj29 _ _ y157 (l2.length : Int) t161 t162 t163 _ ?side1 ?side2 A45.out).mono ?_); (case side1 => repeat (first | exact (by repeat (first | (with_reducible exact HR160.out) | (with_reducible refine Kd.C_alloc ?_ _) | (with_reducible refine Kd.C_drewN ?_ _) | (with_reducible refine Kd.C_drew ?_) | exact HR160.out)) | (with_reducible refine Kd.C_alloc ?_ _) | (with_reducible refine Kd.C_drewN ?_ _) | (with_reducible refine Kd.C_drew ?_))); (case side2 => exact HC160.out); rintro e w' ⟨rfl, ⟨nd, rfl⟩⟩; (try first | exact ⟨rfl, _, World.drewN_drewN _ _ _⟩ | exact ⟨rfl, _, Eq.trans (World.drewN_drewN _ _ _) (congrArg (World.drewN _) (Nat.add_assoc _ _ _))⟩))); try go_wp2_with (first | (go_at_call 11; (with_reducible refine (codec_Int.calls kj29 _ _ t135 t152 t154 t155 t156 _ ?side1 ?side2 A41.out).mono ?_); (case side1 => repeat (first | exact (Kd.R_reads' HO_9.out).2.2 | (with_reducible refine Kd.C_alloc ?_ _) | (with_reducible refine Kd.C_drewN ?_ _) | (with_reducible refine Kd.C_drew ?_))); (case side2 => exact (Kd.R_reads' HO_9.out).2.1); rintro e w' ⟨rfl, ⟨nd, rfl⟩⟩; (try first | exact ⟨rfl, _, World.drewN_drewN _ _ _⟩ | exact ⟨rfl, _, Eq.trans (World.drewN_drewN _ _ _) (congrArg (World.drewN _) (Nat.add_assoc _ _ _))⟩); have q55 : ((ji42) : Int) ≤ ((t135.length : Int) : Int) := of_decide_eq_true (by first | (with_reducible assumption) | assumption); obtain ⟨i055, hi055, _, hsz55, _⟩ := info_parts info5; have hroom55 : t135.length ≤ co34 := (Kd.R_reads' HO_9.out).2.1; have hC55 : Kd.C (Kd.int .u8) _ Ao34 t135.length t135 := (Kd.R_reads' HO_9.out).2.2; have hcut55 := cut_to (P := Try.prog) 22 5 .i64 Try.underlying22 hi055 Ao34 t135.length co34 (ji42) (of_decide_eq_true (by first | (with_reducible assumption) | assumption)) q55 hroom55; have hr55 := Kd.C_take (m := ((ji42) : Int).toNat) hC55 (by omega); have hy55 : y157.length = ((ji42) : Int).toNat := (by rw [Ny157.out, List.length_take]; omega); rw [← Ny157.out] at hr55; rw [← hy55] at hcut55; have HR160 := Aside0.mk hr55; have HC160 := Aside0.mk (show y157.length ≤ co34 from by omega); clear hr55 hC55 hroom55 hi055 hsz55; have KY55 := Aside0.mk hy55; clear hy55; have KL55 := Aside0.mk (show ((ji42) : Int).toNat ≤ t135.length from by omega); replace q55 := eq_true q55) | (go_at_call 11; (with_reducible refine (codec_Int.calls kj29 _ _ y157 (l2.length : Int) t161 t162 t163 _ ?side1 ?side2 A45.out).mono ?_); (case side1 => repeat (first | exact (by repeat (first | (with_reducible exact HR160.out) | (with_reducible refine Kd.C_alloc ?_ _) | (with_reducible refine Kd.C_drewN ?_ _) | (with_reducible refine Kd.C_drew ?_) | exact HR160.out)) | (with_reducible refine Kd.C_alloc ?_ _) | (with_reducible refine Kd.C_drewN ?_ _) | (with_reducible refine Kd.C_drew ?_))); (case side2 => exact HC160.out); rintro e w' ⟨rfl, ⟨nd, rfl⟩⟩; (try first | exact ⟨rfl, _, World.drewN_drewN _ _ _⟩ | exact ⟨rfl, _, Eq.trans (World.drewN_drewN _ _ _) (congrArg (World.drewN _) (Nat.add_assoc _ _ _))⟩))))
                                go_ret
                                exact ⟨by first | rfl | (simp [errW_none, errW_some] <;> rfl) | (simp only [← hji42]; first | rfl | (simp [errW_none, errW_some] <;> rfl)) | (simp [*, errW_none, errW_some] <;> rfl), by repeat (first | (with_reducible first | exact HB.out | apply below_alloc | apply pw_below_drewN | apply below_drew1) | exact HB.out)⟩
                            · rw [if_neg c46] at H
                              have c46b0 : (t156 == 0) = false := beq_eq_false_iff_ne.mpr c46
                              have c46b1 : (t156 != 0) = true := bne_iff_ne.mpr c46
                              obtain rfl := Option.some.inj H
                              go_wp2_with (first | (go_at_call 11; (with_reducible refine (codec_Int.calls kj29 _ _ t135 t152 t154 t155 t156 _ ?side1 ?side2 A41.out).mono ?_); (case side1 => repeat (first | exact (Kd.R_reads' HO_9.out).2.2 | (with_reducible refine Kd.C_alloc ?_ _) | (with_reducible refine Kd.C_drewN ?_ _) | (with_reducible refine Kd.C_drew ?_))); (case side2 => exact (Kd.R_reads' HO_9.out).2.1); rintro e w' ⟨rfl, ⟨nd, rfl⟩⟩; (try first | exact ⟨rfl, _, World.drewN_drewN _ _ _⟩ | exact ⟨rfl, _, Eq.trans (World.drewN_drewN _ _ _) (congrArg (World.drewN _) (Nat.add_assoc _ _ _))⟩); have q56 : ((ji42) : Int) ≤ ((t135.length : Int) : Int) := of_decide_eq_true (by first | (with_reducible assumption) | assumption); obtain ⟨i056, hi056, _, hsz56, _⟩ := info_parts info5; have hroom56 : t135.length ≤ co34 := (Kd.R_reads' HO_9.out).2.1; have hC56 : Kd.C (Kd.int .u8) _ Ao34 t135.length t135 := (Kd.R_reads' HO_9.out).2.2; have hcut56 := cut_to (P := Try.prog) 22 5 .i64 Try.underlying22 hi056 Ao34 t135.length co34 (ji42) (of_decide_eq_true (by first | (with_reducible assumption) | assumption)) q56 hroom56; have hr56 := Kd.C_take (m := ((ji42) : Int).toNat) hC56 (by omega); have hy56 : y157.length = ((ji42) : Int).toNat := (by rw [Ny157.out, List.length_take]; omega); rw [← Ny157.out] at hr56; rw [← hy56] at hcut56; have HR160 := Aside0.mk hr56; have HC160 := Aside0.mk (show y157.length ≤ co34 from by omega); clear hr56 hC56 hroom56 hi056 hsz56; have KY56 := Aside0.mk hy56; clear hy56; have KL56 := Aside0.mk (show ((ji42) : Int).toNat ≤ t135.length from by omega); replace q56 := eq_true q56) | (go_at_call 11; (with_reducible refine (codec_Int.calls kj29 _ _ y157 (l2.length : Int) t161 t162 t163 _ ?side1 ?side2 A45.out).mono ?_); (case side1 => repeat (first | exact (by repeat (first | (with_reducible exact HR160.out) | (with_reducible refine Kd.C_alloc ?_ _) | (with_reducible refine Kd.C_drewN ?_ _) | (with_reducible refine Kd.C_drew ?_) | exact HR160.out)) | (with_reducible refine Kd.C_alloc ?_ _) | (with_reducible refine Kd.C_drewN ?_ _) | (with_reducible refine Kd.C_drew ?_))); (case side2 => exact HC160.out); rintro e w' ⟨rfl, ⟨nd, rfl⟩⟩; (try first | exact ⟨rfl, _, World.drewN_drewN _ _ _⟩ | exact ⟨rfl, _, Eq.trans (World.drewN_drewN _ _ _) (congrArg (World.drewN _) (Nat.add_assoc _ _ _))⟩)))
                              repeat (go_quiet (first | (go_at_call 11; (with_reducible refine (codec_Int.calls kj29 _ _ t135 t152 t154 t155 t156 _ ?side1 ?side2 A41.out).mono ?_); (case side1 => repeat (first | exact (Kd.R_reads' HO_9.out).2.2 | (with_reducible refine Kd.C_alloc ?_ _) | (with_reducible refine Kd.C_drewN ?_ _) | (with_reducible refine Kd.C_drew ?_))); (case side2 => exact (Kd.R_reads' HO_9.out).2.1); rintro e w' ⟨rfl, ⟨nd, rfl⟩⟩; (try first | exact ⟨rfl, _, World.drewN_drewN _ _ _⟩ | exact ⟨rfl, _, Eq.trans (World.drewN_drewN _ _ _) (congrArg (World.drewN _) (Nat.add_assoc _ _ _))⟩); have q56 : ((ji42) : Int) ≤ ((t135.length : Int) : Int) := of_decide_eq_true (by first | (with_reducible assumption) | assumption); obtain ⟨i056, hi056, _, hsz56, _⟩ := info_parts info5; have hroom56 : t135.length ≤ co34 := (Kd.R_reads' HO_9.out).2.1; have hC56 : Kd.C (Kd.int .u8) _ Ao34 t135.length t135 := (Kd.R_reads' HO_9.out).2.2; have hcut56 := cut_to (P := Try.prog) 22 5 .i64 Try.underlying22 hi056 Ao34 t135.length co34 (ji42) (of_decide_eq_true (by first | (with_reducible assumption) | assumption)) q56 hroom56; have hr56 := Kd.C_take (m := ((ji42) : Int).toNat) hC56 (by omega); have hy56 : y157.length = ((ji42) : Int).toNat := (by rw [Ny157.out, List.length_take]; omega); rw [← Ny157.out] at hr56; rw [← hy56] at hcut56; have HR160 := Aside0.mk hr56; have HC160 := Aside0.mk (show y157.length ≤ co34 from by omega); clear hr56 hC56 hroom56 hi056 hsz56; have KY56 := Aside0.mk hy56; clear hy56; have KL56 := Aside0.mk (show ((ji42) : Int).toNat ≤ t135.length from by omega); replace q56 := eq_true q56) | (go_at_call 11; (with_reducible refine (codec_Int.calls kj29 _ _ y157 (l2.length : Int) t161 t162 t163 _ ?side1 ?side2 A45.out).mono ?_); (case side1 => repeat (first | exact (by repeat (first | (with_reducible exact HR160.out) | (with_reducible refine Kd.C_alloc ?_ _) | (with_reducible refine Kd.C_drewN ?_ _) | (with_reducible refine Kd.C_drew ?_) | exact HR160.out)) | (with_reducible refine Kd.C_alloc ?_ _) | (with_reducible refine Kd.C_drewN ?_ _) | (with_reducible refine Kd.C_drew ?_))); (case side2 => exact HC160.out); rintro e w' ⟨rfl, ⟨nd, rfl⟩⟩; (try first | exact ⟨rfl, _, World.drewN_drewN _ _ _⟩ | exact ⟨rfl, _, Eq.trans (World.drewN_drewN _ _ _) (congrArg (World.drewN _) (Nat.add_assoc _ _ _))⟩))); try go_wp2_with (first | (go_at_call 11; (with_reducible refine (codec_Int.calls kj29 _ _ t135 t152 t154 t155 t156 _ ?side1 ?side2 A41.out).mono ?_); (case side1 => repeat (first | exact (Kd.R_reads' HO_9.out).2.2 | (with_reducible refine Kd.C_alloc ?_ _) | (with_reducible refine Kd.C_drewN ?_ _) | (with_reducible refine Kd.C_drew ?_))); (case side2 => exact (Kd.R_reads' HO_9.out).2.1); rintro e w' ⟨rfl, ⟨nd, rfl⟩⟩; (try first | exact ⟨rfl, _, World.drewN_drewN _ _ _⟩ | exact ⟨rfl, _, Eq.trans (World.drewN_drewN _ _ _) (congrArg (World.drewN _) (Nat.add_assoc _ _ _))⟩); have q56 : ((ji42) : Int) ≤ ((t135.length : Int) : Int) := of_decide_eq_true (by first | (with_reducible assumption) | assumption); obtain ⟨i056, hi056, _, hsz56, _⟩ := info_parts info5; have hroom56 : t135.length ≤ co34 := (Kd.R_reads' HO_9.out).2.1; have hC56 : Kd.C (Kd.int .u8) _ Ao34 t135.length t135 := (Kd.R_reads' HO_9.out).2.2; have hcut56 := cut_to (P := Try.prog) 22 5 .i64 Try.underlying22 hi056 Ao34 t135.length co34 (ji42) (of_decide_eq_true (by first | (with_reducible assumption) | assumption)) q56 hroom56; have hr56 := Kd.C_take (m := ((ji42) : Int).toNat) hC56 (by omega); have hy56 : y157.length = ((ji42) : Int).toNat := (by rw [Ny157.out, List.length_take]; omega); rw [← Ny157.out] at hr56; rw [← hy56] at hcut56; have HR160 := Aside0.mk hr56; have HC160 := Aside0.mk (show y157.length ≤ co34 from by omega); clear hr56 hC56 hroom56 hi056 hsz56; have KY56 := Aside0.mk hy56; clear hy56; have KL56 := Aside0.mk (show ((ji42) : Int).toNat ≤ t135.length from by omega); replace q56 := eq_true q56) | (go_at_call 11; (with_reducible refine (codec_Int.calls kj29 _ _ y157 (l2.length : Int) t161 t162 t163 _ ?side1 ?side2 A45.out).mono ?_); (case side1 => repeat (first | exact (by repeat (first | (with_reducible exact HR160.out) | (with_reducible refine Kd.C_alloc ?_ _) | (with_reducible refine Kd.C_drewN ?_ _) | (with_reducible refine Kd.C_drew ?_) | exact HR160.out)) | (with_reducible refine Kd.C_alloc ?_ _) | (with_reducible refine Kd.C_drewN ?_ _) | (with_reducible refine Kd.C_drew ?_))); (case side2 => exact HC160.out); rintro e w' ⟨rfl, ⟨nd, rfl⟩⟩; (try first | exact ⟨rfl, _, World.drewN_drewN _ _ _⟩ | exact ⟨rfl, _, Eq.trans (World.drewN_drewN _ _ _) (congrArg (World.drewN _) (Nat.add_assoc _ _ _))⟩))))
                              go_ret
                              exact ⟨by first | rfl | (simp [errW_none, errW_some] <;> rfl) | (simp only [← hji42]; first | rfl | (simp [errW_none, errW_some] <;> rfl)) | (simp [*, errW_none, errW_some] <;> rfl), by repeat (first | (with_reducible first | exact HB.out | apply below_alloc | apply pw_below_drewN | apply below_drew1) | exact HB.out)⟩
                          · rw [if_neg c44] at H
                            exact absurd H (by simp)
                        · rw [if_neg c43] at H
                          exact absurd H (by simp)
                · rw [if_neg c28] at H
                  exact absurd H (by simp)
              · rw [if_neg c27] at H
                exact absurd H (by simp)

/-- THE ONE PURE STATEMENT of shapesearchlaw03_CodecBack: yours. -/
def shapesearchlaw03_CodecBack.Pure : Prop := ∀ (a0 : Int) (a1 : Int) (l2 : List Int) (l3 : List Int), (Lit.int .i64 a0).wf = true → (Lit.int .i64 a1).wf = true → l2.length ≤ maxLen → l2.length * 1 ≤ 140737488351232 → (∀ x ∈ l2, (Lit.int .u8 x).wf = true) → l3.length ≤ maxLen → l3.length * 1 ≤ 140737488351232 → (∀ x ∈ l3, (Lit.int .u8 x).wf = true) → ∃ k, shapesearchlaw03_CodecBack.f k a0 a1 l2 l3 = some true
theorem shapesearchlaw03_CodecBack.walk (P : shapesearchlaw03_CodecBack.Pure) (a0 : Int) (a1 : Int) (a2 : Option Addr) (len2 cap2 : Nat) (z2 : List Int) (a3 : Option Addr) (len3 cap3 : Nat) (z3 : List Int) (w : World) (w0 : (Lit.int .i64 a0).wf = true) (w1 : (Lit.int .i64 a1).wf = true) (w2 : (a2 = none ∧ len2 = 0 ∧ cap2 = 0 ∧ z2 = []) ∨ ∃ x, a2 = some x ∧ len2 ≤ cap2 ∧ cap2 ≤ maxLen ∧ z2.length = cap2 ∧ (∀ i, i < z2.length → w.cell? (x.add i) = some (.int .u8 (z2.getD i 0))) ∧ ∀ n ∈ z2, (Lit.int .u8 n).wf = true) (y2 : len2 * 1 ≤ 140737488351232) (w3 : (a3 = none ∧ len3 = 0 ∧ cap3 = 0 ∧ z3 = []) ∨ ∃ x, a3 = some x ∧ len3 ≤ cap3 ∧ cap3 ≤ maxLen ∧ z3.length = cap3 ∧ (∀ i, i < z3.length → w.cell? (x.add i) = some (.int .u8 (z3.getD i 0))) ∧ ∀ n ∈ z3, (Lit.int .u8 n).wf = true) (y3 : len3 * 1 ≤ 140737488351232) :
    Calls Try.prog 3 #[.int .i64 a0, .int .i64 a1, .slice a2 len2 cap2, .slice a3 len3 cap3] w fun e w' => e = .returned (.bool true) ∧ Below w.heap.size w w' := by
  obtain ⟨l2, rfl, hr2, hm2, hw2, hc2⟩ := ReadsInt.ofRowC w2
  obtain ⟨l3, rfl, hr3, hm3, hw3, hc3⟩ := ReadsInt.ofRowC w3
  obtain ⟨k, h⟩ := P a0 a1 l2 l3 w0 w1 hm2 y2 hw2 hm3 y3 hw3
  refine (shapesearchlaw03_CodecBack.calls k a0 a1 _ _ l2 _ _ l3 true w (Kd.C_of_reads (d := (0 : Int)) (h1 := fun _ => rfl) hr2) hc2 (Kd.C_of_reads (d := (0 : Int)) (h1 := fun _ => rfl) hr3) hc3 h).mono ?_
  rintro e w' ⟨rfl, hd⟩
  exact ⟨rfl, hd⟩

end Go.Proofs.Ytemeojkmchgkjaa.PCodecBack
