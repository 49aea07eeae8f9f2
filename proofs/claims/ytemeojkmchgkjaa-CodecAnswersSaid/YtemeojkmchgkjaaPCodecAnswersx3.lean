/- This file proves, function by function, what the Go functions that one law uses compute; most of it was printed by a program (wip/tools of this session, over the kit's print). -/
import Derived.Test.YtemeojkmchgkjaaPCodecAnswersx0
import Derived.Test.YtemeojkmchgkjaaPCodecAnswersx2
namespace Go.Proofs.Ytemeojkmchgkjaa.PCodecAnswers
open Go.RowKit Go.Proofs.YtemeojkmchgkjaaW.PrintWords Go.Proofs.YtemeojkmchgkjaaW.PrintLast Go.Proofs.YtemeojkmchgkjaaW.PrintMore
attribute [local go_sem] max2_int min2_int max_two min_two max_three min_three max_four min_four   -- for this text's walks alone
set_option linter.unusedVariables false
set_option linter.unusedSimpArgs false

/-! ### shapesearchkeep_Src_Bytes: function 18 -/
def shapesearchkeep_Src_Bytes.f (s0_0 : List Int) (s0_1 : Int) (l1 : List Int) : Option (List Int × Int) := (some (([] : List Int) : List Int)).bind fun y153 => (if y153.length + l1.length < 140737488355328 then ((some (y153 ++ l1 : List Int)).bind fun y156 => ((shapesearchkeep_Src_N.f s0_0 s0_1 4).bind fun bt159 => (if bt159.1 = 0 then ((shapesearchkeep_Src_N.f s0_0 bt159.2 (wrap64 ((y156.length : Int) + 1))).bind fun bt161 => (if 0 ≤ bt161.1 then (if bt161.1 ≤ (y156.length : Int) then (some ((y156.take (bt161.1 : Int).toNat), bt161.2)) else (none)) else (none))) else (if bt159.1 = 1 then ((shapesearchkeep_Src_N.f s0_0 bt159.2 256).bind fun bt166 => (if y156.length < 140737488355328 then (some ((y156 ++ [(bt166.1) % 256]), bt166.2)) else (none))) else (if bt159.1 = 2 then (if (y156.length : Int) > 0 then ((shapesearchkeep_Src_N.f s0_0 bt159.2 (y156.length : Int)).bind fun bt171 => (if 0 ≤ bt171.1 then (if bt171.1 < (y156.length : Int) then ((shapesearchkeep_Src_Range.f s0_0 bt171.2 1 255).bind fun bt174 => (some ((y156.set (bt171.1 : Int).toNat (Go.bits .xor .u8 (rd y156 bt171.1) ((bt174.1) % 256))), bt174.2))) else (none)) else (none))) else (some (y156, bt159.2))) else (some (y156, bt159.2))))))) else (none))
def shapesearchkeep_Src_Bytes.T9 : Bool × List (List Nat × List Nat) := (true, [([], []), ([], []), ([], []), ([2], [2]), ([1, 3], [1, 3]), ([0, 4], [0, 4]), ([5], [5]), ([], []), ([7, 4], [7]), ([8], [8]), ([6, 9], [6, 9]), ([0, 4, 0, 1, 2, 3, 4, 5, 6, 7, 8, 9, 10], [0, 4]), ([11, 10, 8, 0, 1, 2, 3, 4, 5, 6, 7, 8, 9, 10], [10, 11])])
def shapesearchkeep_Src_Bytes.B9 : List Nat := [0, 0, 0, 4, 14, 31, 63, 0, 158, 414, 1023, 2047, 4095]
theorem shapesearchkeep_Src_Bytes.tab9 : rtab .any (opsOf Try.f18 9) = shapesearchkeep_Src_Bytes.T9 := by kernel_rfl
theorem shapesearchkeep_Src_Bytes.bits9 : waitsOk shapesearchkeep_Src_Bytes.T9.2 shapesearchkeep_Src_Bytes.B9 = true := by kernel_rfl
set_option maxHeartbeats 8000000 in
set_option maxRecDepth 100000 in
theorem shapesearchkeep_Src_Bytes.calls (g : Nat) (s0_0 : List Int) (s0_1 : Int) (A1 : Option Addr) (c1 : Nat) (l1 : List Int) (r1 : List Int) (r2 : Int) (w0 w : World) (hI : IsS57 w0 w g s0_0 s0_1) (hB : Below w0.heap.size w0 w) (hr1 : Kd.C (Kd.int .u8) w A1 l1.length l1) (hc1 : l1.length ≤ c1) (hf1 : ∀ ad, A1 = some ad → 0 < l1.length → ad.block ≠ g) (h : shapesearchkeep_Src_Bytes.f s0_0 s0_1 l1 = some (r1, r2)) :
    Calls Try.prog 18 #[.pointer (some ⟨g, 0, none⟩), .slice A1 l1.length c1] w fun e w' => ∃ v0_ : Value, e = .returned (v0_) ∧ Kd.R (Kd.int .u8) 5 w' w.heap.size (fun _ => True) v0_ r1 ∧ IsS57 w0 w' g s0_0 r2 ∧ Below w0.heap.size w0 w' ∧ KeepBut w w' g none := by
  have HR1 := Aside0.mk hr1
  have HC1 := Aside0.mk hc1
  clear hr1 hc1
  have HI0 := Aside0.mk hI
  have HK := Aside0.mk (KeepBut.refl w g none)
  have HL := Aside0.mk hB.size
  clear hI
  have HW0 := Aside0.mk hB.size
  have HB := Aside0.mk hB
  clear hB
  have H : ((some (([] : List Int) : List Int)).bind fun y153 => (if y153.length + l1.length < 140737488355328 then ((some (y153 ++ l1 : List Int)).bind fun y156 => ((shapesearchkeep_Src_N.f s0_0 s0_1 4).bind fun bt159 => (if bt159.1 = 0 then ((shapesearchkeep_Src_N.f s0_0 bt159.2 (wrap64 ((y156.length : Int) + 1))).bind fun bt161 => (if 0 ≤ bt161.1 then (if bt161.1 ≤ (y156.length : Int) then (some ((y156.take (bt161.1 : Int).toNat), bt161.2)) else (none)) else (none))) else (if bt159.1 = 1 then ((shapesearchkeep_Src_N.f s0_0 bt159.2 256).bind fun bt166 => (if y156.length < 140737488355328 then (some ((y156 ++ [(bt166.1) % 256]), bt166.2)) else (none))) else (if bt159.1 = 2 then (if (y156.length : Int) > 0 then ((shapesearchkeep_Src_N.f s0_0 bt159.2 (y156.length : Int)).bind fun bt171 => (if 0 ≤ bt171.1 then (if bt171.1 < (y156.length : Int) then ((shapesearchkeep_Src_Range.f s0_0 bt171.2 1 255).bind fun bt174 => (some ((y156.set (bt171.1 : Int).toNat (Go.bits .xor .u8 (rd y156 bt171.1) ((bt174.1) % 256))), bt174.2))) else (none)) else (none))) else (some (y156, bt159.2))) else (some (y156, bt159.2))))))) else (none))) = some (r1, r2) := h
  clear h
  obtain ⟨y153, hy153⟩ : ∃ y_ : List Int, y_ = (([] : List Int)) := ⟨_, rfl⟩
  replace H : (if y153.length + l1.length < 140737488355328 then ((some (y153 ++ l1 : List Int)).bind fun y156 => ((shapesearchkeep_Src_N.f s0_0 s0_1 4).bind fun bt159 => (if bt159.1 = 0 then ((shapesearchkeep_Src_N.f s0_0 bt159.2 (wrap64 ((y156.length : Int) + 1))).bind fun bt161 => (if 0 ≤ bt161.1 then (if bt161.1 ≤ (y156.length : Int) then (some ((y156.take (bt161.1 : Int).toNat), bt161.2)) else (none)) else (none))) else (if bt159.1 = 1 then ((shapesearchkeep_Src_N.f s0_0 bt159.2 256).bind fun bt166 => (if y156.length < 140737488355328 then (some ((y156 ++ [(bt166.1) % 256]), bt166.2)) else (none))) else (if bt159.1 = 2 then (if (y156.length : Int) > 0 then ((shapesearchkeep_Src_N.f s0_0 bt159.2 (y156.length : Int)).bind fun bt171 => (if 0 ≤ bt171.1 then (if bt171.1 < (y156.length : Int) then ((shapesearchkeep_Src_Range.f s0_0 bt171.2 1 255).bind fun bt174 => (some ((y156.set (bt171.1 : Int).toNat (Go.bits .xor .u8 (rd y156 bt171.1) ((bt174.1) % 256))), bt174.2))) else (none)) else (none))) else (some (y156, bt159.2))) else (some (y156, bt159.2))))))) else (none)) = some (r1, r2) := by first | (rw [hy153]; with_reducible exact H) | (have H2_ := (Option.bind_some _ _).symm.trans H; rw [hy153]; with_reducible exact H2_) | (have H2_ := (Option.bind_some _ _).symm.trans H; with_reducible exact H2_) | with_reducible exact H | (rw [hy153]; exact H) | exact H
  have Ny153 := Aside0.mk hy153
  clear hy153
  by_cases c3 : y153.length + l1.length < 140737488355328
  · rw [if_pos c3] at H
    have LMc3 := Aside0.mk c3
    clear c3
    obtain ⟨y156, hy156⟩ : ∃ y_ : List Int, y_ = (y153 ++ l1) := ⟨_, rfl⟩
    replace H : ((shapesearchkeep_Src_N.f s0_0 s0_1 4).bind fun bt159 => (if bt159.1 = 0 then ((shapesearchkeep_Src_N.f s0_0 bt159.2 (wrap64 ((y156.length : Int) + 1))).bind fun bt161 => (if 0 ≤ bt161.1 then (if bt161.1 ≤ (y156.length : Int) then (some ((y156.take (bt161.1 : Int).toNat), bt161.2)) else (none)) else (none))) else (if bt159.1 = 1 then ((shapesearchkeep_Src_N.f s0_0 bt159.2 256).bind fun bt166 => (if y156.length < 140737488355328 then (some ((y156 ++ [(bt166.1) % 256]), bt166.2)) else (none))) else (if bt159.1 = 2 then (if (y156.length : Int) > 0 then ((shapesearchkeep_Src_N.f s0_0 bt159.2 (y156.length : Int)).bind fun bt171 => (if 0 ≤ bt171.1 then (if bt171.1 < (y156.length : Int) then ((shapesearchkeep_Src_Range.f s0_0 bt171.2 1 255).bind fun bt174 => (some ((y156.set (bt171.1 : Int).toNat (Go.bits .xor .u8 (rd y156 bt171.1) ((bt174.1) % 256))), bt174.2))) else (none)) else (none))) else (some (y156, bt159.2))) else (some (y156, bt159.2)))))) = some (r1, r2) := by first | (rw [hy156]; with_reducible exact H) | (have H2_ := (Option.bind_some _ _).symm.trans H; rw [hy156]; with_reducible exact H2_) | (have H2_ := (Option.bind_some _ _).symm.trans H; with_reducible exact H2_) | with_reducible exact H | (rw [hy156]; exact H) | exact H
    have Ny156 := Aside0.mk hy156
    clear hy156
    replace H := Option.bind_eq_some_iff.mp H
    obtain ⟨⟨t159, t160⟩, A40, H⟩ := H
    replace H : (if t159 = 0 then ((shapesearchkeep_Src_N.f s0_0 t160 (wrap64 ((y156.length : Int) + 1))).bind fun bt161 => (if 0 ≤ bt161.1 then (if bt161.1 ≤ (y156.length : Int) then (some ((y156.take (bt161.1 : Int).toNat), bt161.2)) else (none)) else (none))) else (if t159 = 1 then ((shapesearchkeep_Src_N.f s0_0 t160 256).bind fun bt166 => (if y156.length < 140737488355328 then (some ((y156 ++ [(bt166.1) % 256]), bt166.2)) else (none))) else (if t159 = 2 then (if (y156.length : Int) > 0 then ((shapesearchkeep_Src_N.f s0_0 t160 (y156.length : Int)).bind fun bt171 => (if 0 ≤ bt171.1 then (if bt171.1 < (y156.length : Int) then ((shapesearchkeep_Src_Range.f s0_0 bt171.2 1 255).bind fun bt174 => (some ((y156.set (bt171.1 : Int).toNat (Go.bits .xor .u8 (rd y156 bt171.1) ((bt174.1) % 256))), bt174.2))) else (none)) else (none))) else (some (y156, t160))) else (some (y156, t160))))) = some (r1, r2) := H
    have A4 := Aside0.mk A40
    clear A40
    by_cases c5 : t159 = 0
    · rw [if_pos c5] at H
      have c5b0 : (t159 == 0) = true := beq_iff_eq.mpr c5
      have c5b1 : (t159 != 0) = false := bne_eq_false_iff_eq.mpr c5
      clear c5
      replace H := Option.bind_eq_some_iff.mp H
      obtain ⟨⟨t161, t162⟩, A60, H⟩ := H
      replace H : (if 0 ≤ t161 then (if t161 ≤ (y156.length : Int) then (some ((y156.take (t161 : Int).toNat), t162)) else (none)) else (none)) = some (r1, r2) := H
      have A6 := Aside0.mk A60
      clear A60
      by_cases c7 : 0 ≤ t161
      · rw [if_pos c7] at H
        have c7b0 := eq_true c7
        have c7b1 : decide (0 ≤ t161) = true := decide_eq_true c7
        clear c7
        by_cases c8 : t161 ≤ (y156.length : Int)
        · rw [if_pos c8] at H
          have c8b0 := eq_true c8
          have c8b1 : decide (t161 ≤ (y156.length : Int)) = true := decide_eq_true c8
          clear c8
          obtain ⟨y163, hy163⟩ : ∃ y_ : List Int, y_ = (y156.take (t161 : Int).toNat) := ⟨_, rfl⟩
          replace H : (some (y163, t162)) = some (r1, r2) := by first | (rw [hy163]; with_reducible exact H) | (have H2_ := (Option.bind_some _ _).symm.trans H; rw [hy163]; with_reducible exact H2_) | (have H2_ := (Option.bind_some _ _).symm.trans H; with_reducible exact H2_) | with_reducible exact H | (rw [hy163]; exact H) | exact H
          have Ny163 := Aside0.mk hy163
          clear hy163
          simp only [Option.some.injEq, Prod.mk.injEq] at H
          obtain ⟨rfl, rfl⟩ := H
          go_enter Try.func18, Try.ntmps18
          go_wp2_with (first | ((with_reducible refine gate_dst (N := 6) rfl ?_); refine Kd.R_lit (Kd.int .u8) _ 5 ?hg (N := 6) ?hd (xs := ([] : List Int)) (inner := []) (ok := fun _ => True) (okp := fun _ => True) ?hr ?hp (fun _ hk => hk) trivial (Below.refl _ _) (Nat.le_refl _) (by simp) ?_; (case hd => rfl); (case hg => rfl); (case hr => first | (go_simp; done) | (go_simp; rfl)); (case hp => exact (Reps.none _ _)); intro v154 w9 ho10 hb hg_ hnew_; clear hg_ hnew_; (first | rw [← Ny153.out] at ho10 | (simp only [Int.reduceToNat] at ho10; rw [← Ny153.out] at ho10)); have n0_ := Aside0.mk (Kd.R_lower ho10 (keep_size (w := w) (g := g) (row := none) (by repeat (first | (with_reducible first | exact HK.out | apply KeepBut.set_ | apply keep_drewN | apply keep_drew | apply keep_alloc) | exact HK.out)))); have n1_ := Aside0.mk (IsS57.below (by repeat (first | (with_reducible first | exact HI0.out | apply IsS57.alloc | apply IsS57.drewN | apply IsS57.drew | apply IsS57.set_1) | exact HI0.out)) hb); have n2_ := Aside0.mk (KeepBut.trans (by repeat (first | (with_reducible first | exact HK.out | apply KeepBut.set_ | apply keep_drewN | apply keep_drew | apply keep_alloc) | exact HK.out)) (KeepBut.of_below hb g none) (.inl rfl)); have n3_ := Aside0.mk (below_step (by repeat (first | (with_reducible first | exact HB.out | apply below_alloc | apply pw_below_drewN | apply below_drew1 | refine below_set ?_ (IsS57.ge HI0.out)) | exact HB.out)) hb); clear HI0; clear HK; clear HB; have HO155 := n0_; have HI0 := n1_; have HK := n2_; have HB := n3_; clear n0_ n1_ n2_ n3_; clear hb ho10) | ((with_reducible refine gate_builtin (b := .append) (xs := #[.tmp 6, .tmp 7]) rfl ?_); at_builtin; refine Kd.R_append_rows (Kd.int .u8) w.heap.size rfl (.tmp 6) (.tmp 7) 22 5 (.int .u8 0) 1 rfl Try.underlying22 info5 rfl (by decide) (by omega) v154 y153 l1 _ _ _ (fun _ => True) (fun _ => False) rfl rfl ?aO ?aR (fun _ _ h => h) (fun _ h => h.elim) ?aF (Below.refl _ _) ?aS ?aL ?_; (case aR => exact Kd.C_keep 0 HR1.out (by repeat (first | (with_reducible first | exact HK.out | apply KeepBut.set_ | apply keep_drewN | apply keep_drew | apply keep_alloc) | exact HK.out)) hf1); (case aF => exact (fun _ _ => trivial)); (case aO => exact (by (with_reducible repeat (first | apply Kd.R_alloc | apply Kd.R_drewN | apply Kd.R_drew)); exact HO155.out)); (case aS => exact (keep_size (w := w) (g := g) (row := none) (by repeat (first | (with_reducible first | exact HK.out | apply KeepBut.set_ | apply keep_drewN | apply keep_drew | apply keep_alloc) | exact HK.out)))); (case aL => have := LMc3.out; omega); intro v157 w11 ho hb hg hat; rw [← Ny156.out] at ho; have n0_ := Aside0.mk (IsS57.grown (by repeat (first | (with_reducible first | exact HI0.out | apply IsS57.alloc | apply IsS57.drewN | apply IsS57.drew | apply IsS57.set_1) | exact HI0.out)) hg (IsS57.own_ne HI0.out HO155.out (by decide))); have n1_ := Aside0.mk (below_weaken (by repeat (first | (with_reducible first | exact HB.out | apply below_alloc | apply pw_below_drewN | apply below_drew1 | refine below_set ?_ (IsS57.ge HI0.out)) | exact HB.out)) HL.out hb); have n2_ := Aside0.mk (KeepBut.trans (by repeat (first | (with_reducible first | exact HK.out | apply KeepBut.set_ | apply keep_drewN | apply keep_drew | apply keep_alloc) | exact HK.out)) (KeepBut.of_grown hg g) (Kd.R_base2 HO155.out)); have n3_ := Aside0.mk (ho); clear HI0; clear HB; clear HK; clear HO155; have HI0 := n0_; have HB := n1_; have HK := n2_; have HO158 := n3_; clear n0_ n1_ n2_ n3_; clear ho hb hg hat) | ((with_reducible refine gate_callee (f := 20) rfl ?_); refine goesL_ (some 10) rfl rfl Try.func20 (by kernel_rfl) rfl #[.pointer (some ⟨g, 0, none⟩), .int .i64 4] rfl (by (try simp only [List.map_toArray, List.map_cons, List.map_nil]); first | done | rfl | (simp only [List.length_drop, List.length_take]; rfl)) ?_; (with_reducible refine (shapesearchkeep_Src_N.calls g s0_0 s0_1 4 t159 t160 w0 _ ?side1 ?side2 A4.out).mono ?_); (case side1 => repeat (first | (with_reducible first | exact HI0.out | apply IsS57.alloc | apply IsS57.drewN | apply IsS57.drew | apply IsS57.set_1) | exact HI0.out)); (case side2 => repeat (first | (with_reducible first | exact HB.out | apply below_alloc | apply pw_below_drewN | apply below_drew1 | refine below_set ?_ (IsS57.ge HI0.out)) | exact HB.out)); rintro e w12 ⟨rfl, hi, hb, hk⟩; refine ⟨_, rfl, ?_⟩; have n0_ := Aside0.mk (Kd.R_mono (Kd.R_keep (IsS57.apart (show IsS57 w0 _ g s0_0 s0_1 from by repeat (first | (with_reducible first | exact HI0.out | apply IsS57.alloc | apply IsS57.drewN | apply IsS57.drew | apply IsS57.set_1) | exact HI0.out)) (by (with_reducible repeat (first | apply Kd.R_alloc | apply Kd.R_drewN | apply Kd.R_drew)); exact HO158.out) (by decide)) hk (fun _ h => h.2)) (fun _ h => h.1)); have n1_ := Aside0.mk (KeepBut.trans (by repeat (first | (with_reducible first | exact HK.out | apply KeepBut.set_ | apply keep_drewN | apply keep_drew | apply keep_alloc) | exact HK.out)) hk (.inl rfl)); have n2_ := Aside0.mk (hb); have n3_ := Aside0.mk (hi); clear HO158; clear HK; clear HB; clear HI0; have HO158 := n0_; have HK := n1_; have HB := n2_; have HI0 := n3_; clear n0_ n1_ n2_ n3_; (try clear hb); (try clear hb2); (try clear hk); (try clear hi); obtain ⟨Ao13, co13, eo13⟩ := Kd.R_slice HO158.out; subst eo13) | ((with_reducible refine gate_callee (f := 20) rfl ?_); refine goesL_ (some 18) rfl rfl Try.func20 (by kernel_rfl) rfl #[.pointer (some ⟨g, 0, none⟩), .int .i64 (wrap64 ((y156.length : Int) + 1))] rfl (by (try simp only [List.map_toArray, List.map_cons, List.map_nil]); first | done | rfl | (simp only [List.length_drop, List.length_take]; rfl)) ?_; (with_reducible refine (shapesearchkeep_Src_N.calls g s0_0 t160 (wrap64 ((y156.length : Int) + 1)) t161 t162 w0 _ ?side1 ?side2 A6.out).mono ?_); (case side1 => repeat (first | (with_reducible first | exact HI0.out | apply IsS57.alloc | apply IsS57.drewN | apply IsS57.drew | apply IsS57.set_1) | exact HI0.out)); (case side2 => repeat (first | (with_reducible first | exact HB.out | apply below_alloc | apply pw_below_drewN | apply below_drew1 | refine below_set ?_ (IsS57.ge HI0.out)) | exact HB.out)); rintro e w14 ⟨rfl, hi, hb, hk⟩; refine ⟨_, rfl, ?_⟩; have n0_ := Aside0.mk (Kd.R_mono (Kd.R_keep (IsS57.apart (show IsS57 w0 _ g s0_0 t160 from by repeat (first | (with_reducible first | exact HI0.out | apply IsS57.alloc | apply IsS57.drewN | apply IsS57.drew | apply IsS57.set_1) | exact HI0.out)) (by (with_reducible repeat (first | apply Kd.R_alloc | apply Kd.R_drewN | apply Kd.R_drew)); exact HO158.out) (by decide)) hk (fun _ h => h.2)) (fun _ h => h.1)); have n1_ := Aside0.mk (KeepBut.trans (by repeat (first | (with_reducible first | exact HK.out | apply KeepBut.set_ | apply keep_drewN | apply keep_drew | apply keep_alloc) | exact HK.out)) hk (.inl rfl)); have n2_ := Aside0.mk (hb); have n3_ := Aside0.mk (hi); clear HO158; clear HK; clear HB; clear HI0; have HO158 := n0_; have HK := n1_; have HB := n2_; have HI0 := n3_; clear n0_ n1_ n2_ n3_; (try clear hb); (try clear hb2); (try clear hk); (try clear hi); have q15 : (t161 : Int) ≤ ((y156.length : Int) : Int) := of_decide_eq_true (by first | (with_reducible assumption) | assumption); obtain ⟨i015, hi015, _, hsz15, _⟩ := info_parts info5; have hcut15 := cut_to (P := Try.prog) 22 5 .i64 Try.underlying22 hi015 Ao13 y156.length co13 t161 (of_decide_eq_true (by first | (with_reducible assumption) | assumption)) q15 (Kd.R_reads' HO158.out).2.1; have hr15 := Kd.R_take (m := (t161 : Int).toNat) HO158.out (by omega); have hy15 : y163.length = (t161 : Int).toNat := (by rw [Ny163.out, List.length_take]; omega); rw [← Ny163.out] at hr15; rw [← hy15] at hr15 hcut15; clear hy15 hi015 hsz15 HO158; have HO165 := Aside0.mk hr15; clear hr15; replace q15 := eq_true q15))
          go_ret
          exact ⟨_, by first | rfl | (simp [errW_none, errW_some] <;> rfl) | (simp [*, errW_none, errW_some] <;> rfl), by (with_reducible repeat (first | apply Kd.R_alloc | apply Kd.R_drewN | apply Kd.R_drew)); exact HO165.out, by repeat (first | (with_reducible first | exact HI0.out | apply IsS57.alloc | apply IsS57.drewN | apply IsS57.drew | apply IsS57.set_1) | exact HI0.out), by repeat (first | (with_reducible first | exact HB.out | apply below_alloc | apply pw_below_drewN | apply below_drew1 | refine below_set ?_ (IsS57.ge HI0.out)) | exact HB.out), by repeat (first | (with_reducible first | exact HK.out | apply KeepBut.set_ | apply keep_drewN | apply keep_drew | apply keep_alloc) | exact HK.out)⟩
        · rw [if_neg c8] at H
          exact absurd H (by simp)
      · rw [if_neg c7] at H
        exact absurd H (by simp)
    · rw [if_neg c5] at H
      have c5b0 : (t159 == 0) = false := beq_eq_false_iff_ne.mpr c5
      have c5b1 : (t159 != 0) = true := bne_iff_ne.mpr c5
      by_cases c16 : t159 = 1
      · rw [if_pos c16] at H
        have c16b0 : (t159 == 1) = true := beq_iff_eq.mpr c16
        have c16b1 : (t159 != 1) = false := bne_eq_false_iff_eq.mpr c16
        clear c16
        replace H := Option.bind_eq_some_iff.mp H
        obtain ⟨⟨t166, t167⟩, A170, H⟩ := H
        replace H : (if y156.length < 140737488355328 then (some ((y156 ++ [(t166) % 256]), t167)) else (none)) = some (r1, r2) := H
        have A17 := Aside0.mk A170
        clear A170
        by_cases c18 : y156.length < 140737488355328
        · rw [if_pos c18] at H
          have LMc18 := Aside0.mk c18
          clear c18
          obtain ⟨y168, hy168⟩ : ∃ y_ : List Int, y_ = (y156 ++ [(t166) % 256]) := ⟨_, rfl⟩
          replace H : (some (y168, t167)) = some (r1, r2) := by first | (rw [hy168]; with_reducible exact H) | (have H2_ := (Option.bind_some _ _).symm.trans H; rw [hy168]; with_reducible exact H2_) | (have H2_ := (Option.bind_some _ _).symm.trans H; with_reducible exact H2_) | with_reducible exact H | (rw [hy168]; exact H) | exact H
          have Ny168 := Aside0.mk hy168
          clear hy168
          simp only [Option.some.injEq, Prod.mk.injEq] at H
          obtain ⟨rfl, rfl⟩ := H
          go_enter Try.func18, Try.ntmps18
          go_wp2_with (first | ((with_reducible refine gate_dst (N := 6) rfl ?_); refine Kd.R_lit (Kd.int .u8) _ 5 ?hg (N := 6) ?hd (xs := ([] : List Int)) (inner := []) (ok := fun _ => True) (okp := fun _ => True) ?hr ?hp (fun _ hk => hk) trivial (Below.refl _ _) (Nat.le_refl _) (by simp) ?_; (case hd => rfl); (case hg => rfl); (case hr => first | (go_simp; done) | (go_simp; rfl)); (case hp => exact (Reps.none _ _)); intro v154 w19 ho20 hb hg_ hnew_; clear hg_ hnew_; (first | rw [← Ny153.out] at ho20 | (simp only [Int.reduceToNat] at ho20; rw [← Ny153.out] at ho20)); have n0_ := Aside0.mk (Kd.R_lower ho20 (keep_size (w := w) (g := g) (row := none) (by repeat (first | (with_reducible first | exact HK.out | apply KeepBut.set_ | apply keep_drewN | apply keep_drew | apply keep_alloc) | exact HK.out)))); have n1_ := Aside0.mk (IsS57.below (by repeat (first | (with_reducible first | exact HI0.out | apply IsS57.alloc | apply IsS57.drewN | apply IsS57.drew | apply IsS57.set_1) | exact HI0.out)) hb); have n2_ := Aside0.mk (KeepBut.trans (by repeat (first | (with_reducible first | exact HK.out | apply KeepBut.set_ | apply keep_drewN | apply keep_drew | apply keep_alloc) | exact HK.out)) (KeepBut.of_below hb g none) (.inl rfl)); have n3_ := Aside0.mk (below_step (by repeat (first | (with_reducible first | exact HB.out | apply below_alloc | apply pw_below_drewN | apply below_drew1 | refine below_set ?_ (IsS57.ge HI0.out)) | exact HB.out)) hb); clear HI0; clear HK; clear HB; have HO155 := n0_; have HI0 := n1_; have HK := n2_; have HB := n3_; clear n0_ n1_ n2_ n3_; clear hb ho20) | ((with_reducible refine gate_builtin (b := .append) (xs := #[.tmp 6, .tmp 7]) rfl ?_); at_builtin; refine Kd.R_append_rows (Kd.int .u8) w.heap.size rfl (.tmp 6) (.tmp 7) 22 5 (.int .u8 0) 1 rfl Try.underlying22 info5 rfl (by decide) (by omega) v154 y153 l1 _ _ _ (fun _ => True) (fun _ => False) rfl rfl ?aO ?aR (fun _ _ h => h) (fun _ h => h.elim) ?aF (Below.refl _ _) ?aS ?aL ?_; (case aR => exact Kd.C_keep 0 HR1.out (by repeat (first | (with_reducible first | exact HK.out | apply KeepBut.set_ | apply keep_drewN | apply keep_drew | apply keep_alloc) | exact HK.out)) hf1); (case aF => exact (fun _ _ => trivial)); (case aO => exact (by (with_reducible repeat (first | apply Kd.R_alloc | apply Kd.R_drewN | apply Kd.R_drew)); exact HO155.out)); (case aS => exact (keep_size (w := w) (g := g) (row := none) (by repeat (first | (with_reducible first | exact HK.out | apply KeepBut.set_ | apply keep_drewN | apply keep_drew | apply keep_alloc) | exact HK.out)))); (case aL => have := LMc3.out; omega); intro v157 w21 ho hb hg hat; rw [← Ny156.out] at ho; have n0_ := Aside0.mk (IsS57.grown (by repeat (first | (with_reducible first | exact HI0.out | apply IsS57.alloc | apply IsS57.drewN | apply IsS57.drew | apply IsS57.set_1) | exact HI0.out)) hg (IsS57.own_ne HI0.out HO155.out (by decide))); have n1_ := Aside0.mk (below_weaken (by repeat (first | (with_reducible first | exact HB.out | apply below_alloc | apply pw_below_drewN | apply below_drew1 | refine below_set ?_ (IsS57.ge HI0.out)) | exact HB.out)) HL.out hb); have n2_ := Aside0.mk (KeepBut.trans (by repeat (first | (with_reducible first | exact HK.out | apply KeepBut.set_ | apply keep_drewN | apply keep_drew | apply keep_alloc) | exact HK.out)) (KeepBut.of_grown hg g) (Kd.R_base2 HO155.out)); have n3_ := Aside0.mk (ho); clear HI0; clear HB; clear HK; clear HO155; have HI0 := n0_; have HB := n1_; have HK := n2_; have HO158 := n3_; clear n0_ n1_ n2_ n3_; clear ho hb hg hat) | ((with_reducible refine gate_callee (f := 20) rfl ?_); refine goesL_ (some 10) rfl rfl Try.func20 (by kernel_rfl) rfl #[.pointer (some ⟨g, 0, none⟩), .int .i64 4] rfl (by (try simp only [List.map_toArray, List.map_cons, List.map_nil]); first | done | rfl | (simp only [List.length_drop, List.length_take]; rfl)) ?_; (with_reducible refine (shapesearchkeep_Src_N.calls g s0_0 s0_1 4 t159 t160 w0 _ ?side1 ?side2 A4.out).mono ?_); (case side1 => repeat (first | (with_reducible first | exact HI0.out | apply IsS57.alloc | apply IsS57.drewN | apply IsS57.drew | apply IsS57.set_1) | exact HI0.out)); (case side2 => repeat (first | (with_reducible first | exact HB.out | apply below_alloc | apply pw_below_drewN | apply below_drew1 | refine below_set ?_ (IsS57.ge HI0.out)) | exact HB.out)); rintro e w22 ⟨rfl, hi, hb, hk⟩; refine ⟨_, rfl, ?_⟩; have n0_ := Aside0.mk (Kd.R_mono (Kd.R_keep (IsS57.apart (show IsS57 w0 _ g s0_0 s0_1 from by repeat (first | (with_reducible first | exact HI0.out | apply IsS57.alloc | apply IsS57.drewN | apply IsS57.drew | apply IsS57.set_1) | exact HI0.out)) (by (with_reducible repeat (first | apply Kd.R_alloc | apply Kd.R_drewN | apply Kd.R_drew)); exact HO158.out) (by decide)) hk (fun _ h => h.2)) (fun _ h => h.1)); have n1_ := Aside0.mk (KeepBut.trans (by repeat (first | (with_reducible first | exact HK.out | apply KeepBut.set_ | apply keep_drewN | apply keep_drew | apply keep_alloc) | exact HK.out)) hk (.inl rfl)); have n2_ := Aside0.mk (hb); have n3_ := Aside0.mk (hi); clear HO158; clear HK; clear HB; clear HI0; have HO158 := n0_; have HK := n1_; have HB := n2_; have HI0 := n3_; clear n0_ n1_ n2_ n3_; (try clear hb); (try clear hb2); (try clear hk); (try clear hi)) | ((with_reducible refine gate_callee (f := 20) rfl ?_); refine goesL_ (some 24) rfl rfl Try.func20 (by kernel_rfl) rfl #[.pointer (some ⟨g, 0, none⟩), .int .i64 256] rfl (by (try simp only [List.map_toArray, List.map_cons, List.map_nil]); first | done | rfl | (simp only [List.length_drop, List.length_take]; rfl)) ?_; (with_reducible refine (shapesearchkeep_Src_N.calls g s0_0 t160 256 t166 t167 w0 _ ?side1 ?side2 A17.out).mono ?_); (case side1 => repeat (first | (with_reducible first | exact HI0.out | apply IsS57.alloc | apply IsS57.drewN | apply IsS57.drew | apply IsS57.set_1) | exact HI0.out)); (case side2 => repeat (first | (with_reducible first | exact HB.out | apply below_alloc | apply pw_below_drewN | apply below_drew1 | refine below_set ?_ (IsS57.ge HI0.out)) | exact HB.out)); rintro e w23 ⟨rfl, hi, hb, hk⟩; refine ⟨_, rfl, ?_⟩; have n0_ := Aside0.mk (Kd.R_mono (Kd.R_keep (IsS57.apart (show IsS57 w0 _ g s0_0 t160 from by repeat (first | (with_reducible first | exact HI0.out | apply IsS57.alloc | apply IsS57.drewN | apply IsS57.drew | apply IsS57.set_1) | exact HI0.out)) (by (with_reducible repeat (first | apply Kd.R_alloc | apply Kd.R_drewN | apply Kd.R_drew)); exact HO158.out) (by decide)) hk (fun _ h => h.2)) (fun _ h => h.1)); have n1_ := Aside0.mk (KeepBut.trans (by repeat (first | (with_reducible first | exact HK.out | apply KeepBut.set_ | apply keep_drewN | apply keep_drew | apply keep_alloc) | exact HK.out)) hk (.inl rfl)); have n2_ := Aside0.mk (hb); have n3_ := Aside0.mk (hi); clear HO158; clear HK; clear HB; clear HI0; have HO158 := n0_; have HK := n1_; have HB := n2_; have HI0 := n3_; clear n0_ n1_ n2_ n3_; (try clear hb); (try clear hb2); (try clear hk); (try clear hi)) | ((with_reducible refine gate_builtin (b := .append) (xs := #[.tmp 22, .tmp 26]) rfl ?_); at_builtin; refine Kd.R_append (Kd.int .u8) w.heap.size rfl (.tmp 22) (.tmp 26) 22 5 (.int .u8 0) 1 rfl Try.underlying22 info5 rfl (by decide) (by omega) v157 y156 ((t166) % 256) [.int .u8 ((t166) % 256)] (fun _ => True) (fun _ => False) rfl rfl ?aP (fun _ hk => hk.elim) ?aF ?aO (Below.refl _ _) ?aS ?aL ?_; (case aP => exact rfl); (case aF => exact (fun _ _ => trivial)); (case aO => exact (by (with_reducible repeat (first | apply Kd.R_alloc | apply Kd.R_drewN | apply Kd.R_drew)); exact HO158.out)); (case aS => exact (keep_size (w := w) (g := g) (row := none) (by repeat (first | (with_reducible first | exact HK.out | apply KeepBut.set_ | apply keep_drewN | apply keep_drew | apply keep_alloc) | exact HK.out)))); (case aL => have := LMc18.out; omega); intro v169 w24 ho hb hg hat; rw [← Ny168.out] at ho; have n0_ := Aside0.mk (IsS57.grown (by repeat (first | (with_reducible first | exact HI0.out | apply IsS57.alloc | apply IsS57.drewN | apply IsS57.drew | apply IsS57.set_1) | exact HI0.out)) hg (IsS57.own_ne HI0.out HO158.out (by decide))); have n1_ := Aside0.mk (below_weaken (by repeat (first | (with_reducible first | exact HB.out | apply below_alloc | apply pw_below_drewN | apply below_drew1 | refine below_set ?_ (IsS57.ge HI0.out)) | exact HB.out)) HL.out hb); have n2_ := Aside0.mk (KeepBut.trans (by repeat (first | (with_reducible first | exact HK.out | apply KeepBut.set_ | apply keep_drewN | apply keep_drew | apply keep_alloc) | exact HK.out)) (KeepBut.of_grown hg g) (Kd.R_base2 HO158.out)); have n3_ := Aside0.mk (ho); clear HI0; clear HB; clear HK; clear HO158; have HI0 := n0_; have HB := n1_; have HK := n2_; have HO170 := n3_; clear n0_ n1_ n2_ n3_; clear ho hb hg hat))
          go_ret
          exact ⟨_, by first | rfl | (simp [errW_none, errW_some] <;> rfl) | (simp [*, errW_none, errW_some] <;> rfl), by (with_reducible repeat (first | apply Kd.R_alloc | apply Kd.R_drewN | apply Kd.R_drew)); exact HO170.out, by repeat (first | (with_reducible first | exact HI0.out | apply IsS57.alloc | apply IsS57.drewN | apply IsS57.drew | apply IsS57.set_1) | exact HI0.out), by repeat (first | (with_reducible first | exact HB.out | apply below_alloc | apply pw_below_drewN | apply below_drew1 | refine below_set ?_ (IsS57.ge HI0.out)) | exact HB.out), by repeat (first | (with_reducible first | exact HK.out | apply KeepBut.set_ | apply keep_drewN | apply keep_drew | apply keep_alloc) | exact HK.out)⟩
        · rw [if_neg c18] at H
          exact absurd H (by simp)
      · rw [if_neg c16] at H
        have c16b0 : (t159 == 1) = false := beq_eq_false_iff_ne.mpr c16
        have c16b1 : (t159 != 1) = true := bne_iff_ne.mpr c16
        by_cases c25 : t159 = 2
        · rw [if_pos c25] at H
          have c25b0 : (t159 == 2) = true := beq_iff_eq.mpr c25
          have c25b1 : (t159 != 2) = false := bne_eq_false_iff_eq.mpr c25
          clear c25
          by_cases c26 : (y156.length : Int) > 0
          · rw [if_pos c26] at H
            have c26b0 : decide (0 < (y156.length : Int)) = true := decide_eq_true c26
            have c26b1 : decide (0 < y156.length) = true := decide_eq_true (by omega)
            clear c26
            replace H := Option.bind_eq_some_iff.mp H
            obtain ⟨⟨t171, t172⟩, A270, H⟩ := H
            replace H : (if 0 ≤ t171 then (if t171 < (y156.length : Int) then ((shapesearchkeep_Src_Range.f s0_0 t172 1 255).bind fun bt174 => (some ((y156.set (t171 : Int).toNat (Go.bits .xor .u8 (rd y156 t171) ((bt174.1) % 256))), bt174.2))) else (none)) else (none)) = some (r1, r2) := H
            have A27 := Aside0.mk A270
            clear A270
            by_cases c28 : 0 ≤ t171
            · rw [if_pos c28] at H
              have c28b0 : decide (0 ≤ t171) = true := decide_eq_true c28
              clear c28
              by_cases c29 : t171 < (y156.length : Int)
              · rw [if_pos c29] at H
                have c29b0 : decide (t171 < (y156.length : Int)) = true := decide_eq_true c29
                clear c29
                replace H := Option.bind_eq_some_iff.mp H
                obtain ⟨⟨t174, t175⟩, A300, H⟩ := H
                replace H : (some ((y156.set (t171 : Int).toNat (Go.bits .xor .u8 (rd y156 t171) ((t174) % 256))), t175)) = some (r1, r2) := H
                have A30 := Aside0.mk A300
                clear A300
                obtain ⟨y176, hy176⟩ : ∃ y_ : List Int, y_ = (y156.set (t171 : Int).toNat (Go.bits .xor .u8 (rd y156 t171) ((t174) % 256))) := ⟨_, rfl⟩
                replace H : (some (y176, t175)) = some (r1, r2) := by first | (rw [hy176]; with_reducible exact H) | (have H2_ := (Option.bind_some _ _).symm.trans H; rw [hy176]; with_reducible exact H2_) | (have H2_ := (Option.bind_some _ _).symm.trans H; with_reducible exact H2_) | with_reducible exact H | (rw [hy176]; exact H) | exact H
                have Ny176 := Aside0.mk hy176
                clear hy176
                simp only [Option.some.injEq, Prod.mk.injEq] at H
                obtain ⟨rfl, rfl⟩ := H
                go_enter Try.func18, Try.ntmps18
                try go_wp2_with (first | ((with_reducible refine gate_dst (N := 6) rfl ?_); refine Kd.R_lit (Kd.int .u8) _ 5 ?hg (N := 6) ?hd (xs := ([] : List Int)) (inner := []) (ok := fun _ => True) (okp := fun _ => True) ?hr ?hp (fun _ hk => hk) trivial (Below.refl _ _) (Nat.le_refl _) (by simp) ?_; (case hd => rfl); (case hg => rfl); (case hr => first | (go_simp; done) | (go_simp; rfl)); (case hp => exact (Reps.none _ _)); intro v154 w32 ho33 hb hg_ hnew_; clear hg_ hnew_; (first | rw [← Ny153.out] at ho33 | (simp only [Int.reduceToNat] at ho33; rw [← Ny153.out] at ho33)); have n0_ := Aside0.mk (Kd.R_lower ho33 (keep_size (w := w) (g := g) (row := none) (by repeat (first | (with_reducible first | exact HK.out | apply KeepBut.set_ | apply keep_drewN | apply keep_drew | apply keep_alloc) | exact HK.out)))); have n1_ := Aside0.mk (IsS57.below (by repeat (first | (with_reducible first | exact HI0.out | apply IsS57.alloc | apply IsS57.drewN | apply IsS57.drew | apply IsS57.set_1) | exact HI0.out)) hb); have n2_ := Aside0.mk (KeepBut.trans (by repeat (first | (with_reducible first | exact HK.out | apply KeepBut.set_ | apply keep_drewN | apply keep_drew | apply keep_alloc) | exact HK.out)) (KeepBut.of_below hb g none) (.inl rfl)); have n3_ := Aside0.mk (below_step (by repeat (first | (with_reducible first | exact HB.out | apply below_alloc | apply pw_below_drewN | apply below_drew1 | refine below_set ?_ (IsS57.ge HI0.out)) | exact HB.out)) hb); clear HI0; clear HK; clear HB; have HO155 := n0_; have HI0 := n1_; have HK := n2_; have HB := n3_; clear n0_ n1_ n2_ n3_; clear hb ho33) | ((with_reducible refine gate_builtin (b := .append) (xs := #[.tmp 6, .tmp 7]) rfl ?_); at_builtin; refine Kd.R_append_rows (Kd.int .u8) w.heap.size rfl (.tmp 6) (.tmp 7) 22 5 (.int .u8 0) 1 rfl Try.underlying22 info5 rfl (by decide) (by omega) v154 y153 l1 _ _ _ (fun _ => True) (fun _ => False) rfl rfl ?aO ?aR (fun _ _ h => h) (fun _ h => h.elim) ?aF (Below.refl _ _) ?aS ?aL ?_; (case aR => exact Kd.C_keep 0 HR1.out (by repeat (first | (with_reducible first | exact HK.out | apply KeepBut.set_ | apply keep_drewN | apply keep_drew | apply keep_alloc) | exact HK.out)) hf1); (case aF => exact (fun _ _ => trivial)); (case aO => exact (by (with_reducible repeat (first | apply Kd.R_alloc | apply Kd.R_drewN | apply Kd.R_drew)); exact HO155.out)); (case aS => exact (keep_size (w := w) (g := g) (row := none) (by repeat (first | (with_reducible first | exact HK.out | apply KeepBut.set_ | apply keep_drewN | apply keep_drew | apply keep_alloc) | exact HK.out)))); (case aL => have := LMc3.out; omega); intro v157 w34 ho hb hg hat; rw [← Ny156.out] at ho; have n0_ := Aside0.mk (IsS57.grown (by repeat (first | (with_reducible first | exact HI0.out | apply IsS57.alloc | apply IsS57.drewN | apply IsS57.drew | apply IsS57.set_1) | exact HI0.out)) hg (IsS57.own_ne HI0.out HO155.out (by decide))); have n1_ := Aside0.mk (below_weaken (by repeat (first | (with_reducible first | exact HB.out | apply below_alloc | apply pw_below_drewN | apply below_drew1 | refine below_set ?_ (IsS57.ge HI0.out)) | exact HB.out)) HL.out hb); have n2_ := Aside0.mk (KeepBut.trans (by repeat (first | (with_reducible first | exact HK.out | apply KeepBut.set_ | apply keep_drewN | apply keep_drew | apply keep_alloc) | exact HK.out)) (KeepBut.of_grown hg g) (Kd.R_base2 HO155.out)); have n3_ := Aside0.mk (ho); clear HI0; clear HB; clear HK; clear HO155; have HI0 := n0_; have HB := n1_; have HK := n2_; have HO158 := n3_; clear n0_ n1_ n2_ n3_; clear ho hb hg hat) | ((with_reducible refine gate_callee (f := 20) rfl ?_); refine goesL_ (some 10) rfl rfl Try.func20 (by kernel_rfl) rfl #[.pointer (some ⟨g, 0, none⟩), .int .i64 4] rfl (by (try simp only [List.map_toArray, List.map_cons, List.map_nil]); first | done | rfl | (simp only [List.length_drop, List.length_take]; rfl)) ?_; (with_reducible refine (shapesearchkeep_Src_N.calls g s0_0 s0_1 4 t159 t160 w0 _ ?side1 ?side2 A4.out).mono ?_); (case side1 => repeat (first | (with_reducible first | exact HI0.out | apply IsS57.alloc | apply IsS57.drewN | apply IsS57.drew | apply IsS57.set_1) | exact HI0.out)); (case side2 => repeat (first | (with_reducible first | exact HB.out | apply below_alloc | apply pw_below_drewN | apply below_drew1 | refine below_set ?_ (IsS57.ge HI0.out)) | exact HB.out)); rintro e w35 ⟨rfl, hi, hb, hk⟩; refine ⟨_, rfl, ?_⟩; have n0_ := Aside0.mk (Kd.R_mono (Kd.R_keep (IsS57.apart (show IsS57 w0 _ g s0_0 s0_1 from by repeat (first | (with_reducible first | exact HI0.out | apply IsS57.alloc | apply IsS57.drewN | apply IsS57.drew | apply IsS57.set_1) | exact HI0.out)) (by (with_reducible repeat (first | apply Kd.R_alloc | apply Kd.R_drewN | apply Kd.R_drew)); exact HO158.out) (by decide)) hk (fun _ h => h.2)) (fun _ h => h.1)); have n1_ := Aside0.mk (KeepBut.trans (by repeat (first | (with_reducible first | exact HK.out | apply KeepBut.set_ | apply keep_drewN | apply keep_drew | apply keep_alloc) | exact HK.out)) hk (.inl rfl)); have n2_ := Aside0.mk (hb); have n3_ := Aside0.mk (hi); clear HO158; clear HK; clear HB; clear HI0; have HO158 := n0_; have HK := n1_; have HB := n2_; have HI0 := n3_; clear n0_ n1_ n2_ n3_; (try clear hb); (try clear hb2); (try clear hk); (try clear hi); obtain ⟨Ao36, co36, eo36⟩ := Kd.R_slice HO158.out; subst eo36))
                have n0_ := Aside0.mk (Kd.R_drew HO158.out)
                have n1_ := Aside0.mk (IsS57.drew HI0.out)
                have n2_ := Aside0.mk (keep_drew HK.out)
                have n3_ := Aside0.mk (below_drew1 HB.out)
                clear HO158
                clear HI0
                clear HK
                clear HB
                have HO158 := n0_
                have HI0 := n1_
                have HK := n2_
                have HB := n3_
                clear n0_ n1_ n2_ n3_
                have p173 : 0 ≤ (t171 : Int) := of_decide_eq_true (by first | (with_reducible assumption) | assumption)
                have q173 : t171 < (y156.length : Int) := of_decide_eq_true (by first | (with_reducible assumption) | assumption)
                obtain ⟨ad173, e173, hx173_0⟩ := Kd.at_int (Kd.R_reads' HO158.out).2.2 t171 p173 q173
                cases e173
                replace p173 := eq_true p173
                replace q173 := eq_true q173
                refine start_ (n := 13) (S := fun w' => w'.cell? (ad173.add (t171).toNat) = some (.int .u8 (rd y156 t171))) (ds := [12]) #[false, false, false, false, false, false, false, false, false, false, false, false, false] (by kernel_rfl) rfl rfl (hx173_0) (fun hHeld => ?_); refine with_tabW shapesearchkeep_Src_Bytes.tab9 shapesearchkeep_Src_Bytes.bits9 (fun HT_ HW_ => ?_)
                generalize w35.drew = w37 at HO158 HI0 HK HB hx173_0 hHeld ⊢
                refine pure_ (i := 0) (N := some 33) (v := ?_) (a' := ?_) #[true, false, false, false, false, false, false, false, false, false, false, false, false] rfl rfl (any_of HT_.out (by kernel_rfl)) (fun _ _ _ h => h) (Or.inl ⟨by rfl, ?_⟩) ?_ ?_
                rotate_left
                · intro w'
                  go_simp
                  with_reducible rfl
                rotate_left
                · simp only [Act.put, List.setIfInBounds_toArray, List.set_cons_zero, List.set_cons_succ, i64_w, i32_w]
                  rfl
                refine pure_ (i := 1) (N := some 34) (v := ?_) (a' := ?_) #[true, true, false, false, false, false, false, false, false, false, false, false, false] rfl rfl (any_of HT_.out (by kernel_rfl)) (fun _ _ _ h => h) (Or.inl ⟨by rfl, ?_⟩) ?_ ?_
                rotate_left
                · intro w'
                  go_simp
                  with_reducible rfl
                rotate_left
                · simp only [Act.put, List.setIfInBounds_toArray, List.set_cons_zero, List.set_cons_succ, i64_w, i32_w]
                  rfl
                refine pure_ (i := 2) (N := some 35) (v := ?_) (a' := ?_) #[true, true, true, false, false, false, false, false, false, false, false, false, false] rfl rfl (any_of HT_.out (by kernel_rfl)) (fun _ _ _ h => h) (Or.inl ⟨by rfl, ?_⟩) ?_ ?_
                rotate_left
                · intro w'
                  go_simp
                  with_reducible rfl
                rotate_left
                · simp only [Act.put, List.setIfInBounds_toArray, List.set_cons_zero, List.set_cons_succ, i64_w, i32_w]
                  rfl
                refine pure_ (i := 3) (N := some 36) (v := ?_) (a' := ?_) #[true, true, true, true, false, false, false, false, false, false, false, false, false] rfl rfl (any_of HT_.out (by kernel_rfl)) (fun _ _ _ h => h) (Or.inl ⟨by rfl, ?_⟩) ?_ ?_
                rotate_left
                · intro w'
                  go_simp
                  with_reducible rfl
                rotate_left
                · simp only [Act.put, List.setIfInBounds_toArray, List.set_cons_zero, List.set_cons_succ, i64_w, i32_w]
                  rfl
                refine pure_ (i := 7) (N := some 40) (v := ?_) (a' := ?_) #[true, true, true, true, false, false, false, true, false, false, false, false, false] rfl rfl (any_of HT_.out (by kernel_rfl)) (fun _ _ _ h => h) (Or.inl ⟨by rfl, ?_⟩) ?_ ?_
                rotate_left
                · intro w'
                  go_simp
                  with_reducible rfl
                rotate_left
                · simp only [Act.put, List.setIfInBounds_toArray, List.set_cons_zero, List.set_cons_succ, i64_w, i32_w]
                  rfl
                refine one_ (i := 4) (N := some 37) #[true, true, true, true, true, false, false, true, false, false, false, false, false] rfl rfl (one_of HT_.out (by kernel_rfl)) (by decide) (fun K hK => ?_)
                refine goes_ Try.func20 (by kernel_rfl) rfl #[.pointer (some ⟨g, 0, none⟩), .int .i64 (y156.length : Int)] (by rfl) rfl rfl (by (try simp only [List.map_toArray, List.map_cons, List.map_nil]); first | done | rfl | (simp only [List.length_drop, List.length_take]; rfl)) ?_
                with_reducible refine (shapesearchkeep_Src_N.calls g s0_0 t160 (y156.length : Int) t171 t172 w0 _ ?side1 ?side2 A27.out).mono ?_
                (case side1 => repeat (first | (with_reducible first | exact HI0.out | apply IsS57.alloc | apply IsS57.drewN | apply IsS57.drew | apply IsS57.set_1) | exact HI0.out))
                (case side2 => repeat (first | (with_reducible first | exact HB.out | apply below_alloc | apply pw_below_drewN | apply below_drew1 | refine below_set ?_ (IsS57.ge HI0.out)) | exact HB.out))
                rintro e w38 ⟨rfl, hi, hb, hk⟩
                have HS0_ := keep_cell hk (hHeld) (by first | (rw [add_block]; exact Kd.own_blk (IsS57.own_ne HI0.out HO158.out (by decide))) | (show (Addr.add _ _).block ≠ _; rw [add_block]; exact Kd.own_blk (IsS57.own_ne HI0.out HO158.out (by decide))) | exact Kd.own_blk (IsS57.own_ne HI0.out HO158.out (by decide)))
                refine ⟨_, rfl, ?_⟩
                have n0_ := Aside0.mk (Kd.R_mono (Kd.R_keep (IsS57.apart (show IsS57 w0 _ g s0_0 t160 from by repeat (first | (with_reducible first | exact HI0.out | apply IsS57.alloc | apply IsS57.drewN | apply IsS57.drew | apply IsS57.set_1) | exact HI0.out)) (by (with_reducible repeat (first | apply Kd.R_alloc | apply Kd.R_drewN | apply Kd.R_drew)); exact HO158.out) (by decide)) hk (fun _ h => h.2)) (fun _ h => h.1))
                have n1_ := Aside0.mk (KeepBut.trans (by repeat (first | (with_reducible first | exact HK.out | apply KeepBut.set_ | apply keep_drewN | apply keep_drew | apply keep_alloc) | exact HK.out)) hk (.inl rfl))
                have n2_ := Aside0.mk (hb)
                have n3_ := Aside0.mk (hi)
                clear HO158
                clear HK
                clear HB
                clear HI0
                have HO158 := n0_
                have HK := n1_
                have HB := n2_
                have HI0 := n3_
                clear n0_ n1_ n2_ n3_
                (try clear hb)
                (try clear hb2)
                (try clear hk)
                (try clear hi)
                refine hK.out _ _ (HS0_) (fun hHeld => ?_)
                clear hK K
                refine norm_ (a' := ?_) ?_ ?_
                rotate_left
                · show Act.put _ (some 37) _ = _
                  simp only [Act.put, List.setIfInBounds_toArray, List.set_cons_zero, List.set_cons_succ, i64_w, i32_w]
                  rfl
                refine pure_ (i := 5) (N := some 38) (v := ?_) (a' := ?_) #[true, true, true, true, true, true, false, true, false, false, false, false, false] rfl rfl (any_of HT_.out (by kernel_rfl)) (fun _ _ _ h => h) (Or.inl ⟨by rfl, ?_⟩) ?_ ?_
                rotate_left
                · intro w'
                  go_simp
                  with_reducible rfl
                rotate_left
                · simp only [Act.put, List.setIfInBounds_toArray, List.set_cons_zero, List.set_cons_succ, i64_w, i32_w]
                  rfl
                refine take_ (i := 6) (N := some 39) (v := ?_) (a' := ?_) #[true, true, true, true, true, true, true, true, false, false, false, false, false] rfl rfl (take_ofW HT_.out HW_.out (by kernel_rfl)) (fun _ _ _ h => h) (Or.inl ⟨by rfl, ?_⟩) hHeld ?_ ?_
                rotate_left
                · intro w' s0
                  go_simp
                  with_reducible rfl
                rotate_left
                · simp only [Act.put, List.setIfInBounds_toArray, List.set_cons_zero, List.set_cons_succ, i64_w, i32_w]
                  rfl
                refine one_ (i := 8) (N := some 41) #[true, true, true, true, true, true, true, true, true, false, false, false, false] rfl rfl (one_of HT_.out (by kernel_rfl)) (by decide) (fun K hK => ?_)
                refine goes_ Try.func29 (by kernel_rfl) rfl #[.pointer (some ⟨g, 0, none⟩), .int .i64 1, .int .i64 255] (by rfl) rfl rfl (by (try simp only [List.map_toArray, List.map_cons, List.map_nil]); first | done | rfl | (simp only [List.length_drop, List.length_take]; rfl)) ?_
                with_reducible refine (shapesearchkeep_Src_Range.calls g s0_0 t172 1 255 t174 t175 w0 _ ?side1 ?side2 A30.out).mono ?_
                (case side1 => repeat (first | (with_reducible first | exact HI0.out | apply IsS57.alloc | apply IsS57.drewN | apply IsS57.drew | apply IsS57.set_1) | exact HI0.out))
                (case side2 => repeat (first | (with_reducible first | exact HB.out | apply below_alloc | apply pw_below_drewN | apply below_drew1 | refine below_set ?_ (IsS57.ge HI0.out)) | exact HB.out))
                rintro e w39 ⟨rfl, hi, hb, hk⟩
                have HS0_ := keep_cell hk (hHeld) (by first | (rw [add_block]; exact Kd.own_blk (IsS57.own_ne HI0.out HO158.out (by decide))) | (show (Addr.add _ _).block ≠ _; rw [add_block]; exact Kd.own_blk (IsS57.own_ne HI0.out HO158.out (by decide))) | exact Kd.own_blk (IsS57.own_ne HI0.out HO158.out (by decide)))
                refine ⟨_, rfl, ?_⟩
                have n0_ := Aside0.mk (Kd.R_mono (Kd.R_keep (IsS57.apart (show IsS57 w0 _ g s0_0 t172 from by repeat (first | (with_reducible first | exact HI0.out | apply IsS57.alloc | apply IsS57.drewN | apply IsS57.drew | apply IsS57.set_1) | exact HI0.out)) (by (with_reducible repeat (first | apply Kd.R_alloc | apply Kd.R_drewN | apply Kd.R_drew)); exact HO158.out) (by decide)) hk (fun _ h => h.2)) (fun _ h => h.1))
                have n1_ := Aside0.mk (KeepBut.trans (by repeat (first | (with_reducible first | exact HK.out | apply KeepBut.set_ | apply keep_drewN | apply keep_drew | apply keep_alloc) | exact HK.out)) hk (.inl rfl))
                have n2_ := Aside0.mk (hb)
                have n3_ := Aside0.mk (hi)
                clear HO158
                clear HK
                clear HB
                clear HI0
                have HO158 := n0_
                have HK := n1_
                have HB := n2_
                have HI0 := n3_
                clear n0_ n1_ n2_ n3_
                (try clear hb)
                (try clear hb2)
                (try clear hk)
                (try clear hi)
                have p31 : 0 ≤ (t171 : Int) := of_decide_eq_true (by first | (with_reducible assumption) | assumption)
                have q31 : (t171 : Int) < ((y156.length : Int) : Int) := of_decide_eq_true (by first | (with_reducible assumption) | assumption)
                obtain ⟨go31, co31, eo31, gb31, gl31, cl31, HG31⟩ := Kd.R_form HO158.out (by omega)
                (first | cases eo31 | (injection eo31 with ea_ en_ ec_; (first | subst ea_ | (injection ea_ with ea_; subst ea_)); subst ec_; clear en_))
                have GB31 := Aside0.mk gb31
                have GG31 := Aside0.mk HG31
                clear gb31 gl31 HG31
                (first | simp only [add_plain] at hx173_0 | skip)
                obtain ⟨hx31_0, hf31_0⟩ := Kd.R_celln 0 HO158.out (t171 : Int) p31 q31
                replace p31 := eq_true p31
                replace q31 := eq_true q31
                have HN0_go31 := Aside0.mk (show g ≠ go31 from by have h_ := IsS57.own_ne HI0.out HO158.out (by decide); intro e_; exact h_ (by rw [e_]; rfl))
                have HP40 := Kd.R_putn HO158.out (t171 : Int) (Go.bits .xor .u8 (rd y156 t171) ((t174) % 256))
                rw [← Ny176.out] at HP40
                have HQ40 := Aside0.mk HP40
                clear HP40
                refine hK.out _ _ (HS0_) (fun hHeld => ?_)
                clear hK K
                refine norm_ (a' := ?_) ?_ ?_
                rotate_left
                · show Act.put _ (some 41) _ = _
                  simp only [Act.put, List.setIfInBounds_toArray, List.set_cons_zero, List.set_cons_succ, i64_w, i32_w]
                  rfl
                refine pure_ (i := 9) (N := some 42) (v := ?_) (a' := ?_) #[true, true, true, true, true, true, true, true, true, true, false, false, false] rfl rfl (any_of HT_.out (by kernel_rfl)) (fun _ _ _ h => h) (Or.inl ⟨by rfl, ?_⟩) ?_ ?_
                rotate_left
                · intro w'
                  go_simp
                  with_reducible rfl
                rotate_left
                · simp only [Act.put, List.setIfInBounds_toArray, List.set_cons_zero, List.set_cons_succ, i64_w, i32_w]
                  rfl
                refine pure_ (i := 10) (N := some 43) (v := ?_) (a' := ?_) #[true, true, true, true, true, true, true, true, true, true, true, false, false] rfl rfl (any_of HT_.out (by kernel_rfl)) (fun _ _ _ h => h) (Or.inl ⟨by rfl, ?_⟩) ?_ ?_
                rotate_left
                · intro w'
                  go_simp
                  with_reducible rfl
                rotate_left
                · simp only [Act.put, List.setIfInBounds_toArray, List.set_cons_zero, List.set_cons_succ, i64_w, i32_w]
                  rfl
                refine pure_ (i := 11) (N := some 44) (v := ?_) (a' := ?_) #[true, true, true, true, true, true, true, true, true, true, true, true, false] rfl rfl (any_of HT_.out (by kernel_rfl)) (fun _ _ _ h => h) (Or.inl ⟨by rfl, ?_⟩) ?_ ?_
                rotate_left
                · intro w'
                  go_simp
                  with_reducible rfl
                rotate_left
                · simp only [Act.put, List.setIfInBounds_toArray, List.set_cons_zero, List.set_cons_succ, i64_w, i32_w]
                  rfl
                refine last_ (i := 12) (N := none) #[true, true, true, true, true, true, true, true, true, true, true, true, true] rfl rfl (one_of HT_.out (by kernel_rfl)) (by decide) (fun K hK => ?_)
                refine skip_ (w1 := ?_) (by rfl) rfl ?_ ?_
                rotate_left
                · go_simp
                  rfl
                refine hK.out _ _ ?_
                clear hK K
                refine done_ (done_of HT_.out (by kernel_rfl)) ?_
                try go_wp2
                go_ret
                exact ⟨_, by first | rfl | (simp [errW_none, errW_some] <;> rfl) | (simp [*, errW_none, errW_some] <;> rfl), by (with_reducible repeat (first | apply Kd.R_alloc | apply Kd.R_drewN | apply Kd.R_drew)); exact HQ40.out, by repeat (first | (with_reducible first | exact HI0.out | apply IsS57.alloc | apply IsS57.drewN | apply IsS57.drew | apply IsS57.set_1 | refine IsS57.far ?_ HN0_go31.out _) | exact HI0.out), by repeat (first | (with_reducible first | exact HB.out | apply below_alloc | apply pw_below_drewN | apply below_drew1 | refine below_set ?_ (Nat.le_trans HL.out GB31.out) | refine below_set ?_ (IsS57.ge HI0.out)) | exact HB.out), by repeat (first | (with_reducible first | exact HK.out | apply KeepBut.set_ | apply keep_drewN | apply keep_drew | apply keep_alloc | refine keep_far ?_ GB31.out _) | exact HK.out)⟩
              · rw [if_neg c29] at H
                exact absurd H (by simp)
            · rw [if_neg c28] at H
              exact absurd H (by simp)
          · rw [if_neg c26] at H
            have c26b0 : decide (0 < (y156.length : Int)) = false := decide_eq_false c26
            have c26b1 : decide (0 < y156.length) = false := decide_eq_false (by omega)
            clear c26
            simp only [Option.some.injEq, Prod.mk.injEq] at H
            obtain ⟨rfl, rfl⟩ := H
            go_enter Try.func18, Try.ntmps18
            go_wp2_with (first | ((with_reducible refine gate_dst (N := 6) rfl ?_); refine Kd.R_lit (Kd.int .u8) _ 5 ?hg (N := 6) ?hd (xs := ([] : List Int)) (inner := []) (ok := fun _ => True) (okp := fun _ => True) ?hr ?hp (fun _ hk => hk) trivial (Below.refl _ _) (Nat.le_refl _) (by simp) ?_; (case hd => rfl); (case hg => rfl); (case hr => first | (go_simp; done) | (go_simp; rfl)); (case hp => exact (Reps.none _ _)); intro v154 w41 ho42 hb hg_ hnew_; clear hg_ hnew_; (first | rw [← Ny153.out] at ho42 | (simp only [Int.reduceToNat] at ho42; rw [← Ny153.out] at ho42)); have n0_ := Aside0.mk (Kd.R_lower ho42 (keep_size (w := w) (g := g) (row := none) (by repeat (first | (with_reducible first | exact HK.out | apply KeepBut.set_ | apply keep_drewN | apply keep_drew | apply keep_alloc) | exact HK.out)))); have n1_ := Aside0.mk (IsS57.below (by repeat (first | (with_reducible first | exact HI0.out | apply IsS57.alloc | apply IsS57.drewN | apply IsS57.drew | apply IsS57.set_1) | exact HI0.out)) hb); have n2_ := Aside0.mk (KeepBut.trans (by repeat (first | (with_reducible first | exact HK.out | apply KeepBut.set_ | apply keep_drewN | apply keep_drew | apply keep_alloc) | exact HK.out)) (KeepBut.of_below hb g none) (.inl rfl)); have n3_ := Aside0.mk (below_step (by repeat (first | (with_reducible first | exact HB.out | apply below_alloc | apply pw_below_drewN | apply below_drew1 | refine below_set ?_ (IsS57.ge HI0.out)) | exact HB.out)) hb); clear HI0; clear HK; clear HB; have HO155 := n0_; have HI0 := n1_; have HK := n2_; have HB := n3_; clear n0_ n1_ n2_ n3_; clear hb ho42) | ((with_reducible refine gate_builtin (b := .append) (xs := #[.tmp 6, .tmp 7]) rfl ?_); at_builtin; refine Kd.R_append_rows (Kd.int .u8) w.heap.size rfl (.tmp 6) (.tmp 7) 22 5 (.int .u8 0) 1 rfl Try.underlying22 info5 rfl (by decide) (by omega) v154 y153 l1 _ _ _ (fun _ => True) (fun _ => False) rfl rfl ?aO ?aR (fun _ _ h => h) (fun _ h => h.elim) ?aF (Below.refl _ _) ?aS ?aL ?_; (case aR => exact Kd.C_keep 0 HR1.out (by repeat (first | (with_reducible first | exact HK.out | apply KeepBut.set_ | apply keep_drewN | apply keep_drew | apply keep_alloc) | exact HK.out)) hf1); (case aF => exact (fun _ _ => trivial)); (case aO => exact (by (with_reducible repeat (first | apply Kd.R_alloc | apply Kd.R_drewN | apply Kd.R_drew)); exact HO155.out)); (case aS => exact (keep_size (w := w) (g := g) (row := none) (by repeat (first | (with_reducible first | exact HK.out | apply KeepBut.set_ | apply keep_drewN | apply keep_drew | apply keep_alloc) | exact HK.out)))); (case aL => have := LMc3.out; omega); intro v157 w43 ho hb hg hat; rw [← Ny156.out] at ho; have n0_ := Aside0.mk (IsS57.grown (by repeat (first | (with_reducible first | exact HI0.out | apply IsS57.alloc | apply IsS57.drewN | apply IsS57.drew | apply IsS57.set_1) | exact HI0.out)) hg (IsS57.own_ne HI0.out HO155.out (by decide))); have n1_ := Aside0.mk (below_weaken (by repeat (first | (with_reducible first | exact HB.out | apply below_alloc | apply pw_below_drewN | apply below_drew1 | refine below_set ?_ (IsS57.ge HI0.out)) | exact HB.out)) HL.out hb); have n2_ := Aside0.mk (KeepBut.trans (by repeat (first | (with_reducible first | exact HK.out | apply KeepBut.set_ | apply keep_drewN | apply keep_drew | apply keep_alloc) | exact HK.out)) (KeepBut.of_grown hg g) (Kd.R_base2 HO155.out)); have n3_ := Aside0.mk (ho); clear HI0; clear HB; clear HK; clear HO155; have HI0 := n0_; have HB := n1_; have HK := n2_; have HO158 := n3_; clear n0_ n1_ n2_ n3_; clear ho hb hg hat) | ((with_reducible refine gate_callee (f := 20) rfl ?_); refine goesL_ (some 10) rfl rfl Try.func20 (by kernel_rfl) rfl #[.pointer (some ⟨g, 0, none⟩), .int .i64 4] rfl (by (try simp only [List.map_toArray, List.map_cons, List.map_nil]); first | done | rfl | (simp only [List.length_drop, List.length_take]; rfl)) ?_; (with_reducible refine (shapesearchkeep_Src_N.calls g s0_0 s0_1 4 t159 t160 w0 _ ?side1 ?side2 A4.out).mono ?_); (case side1 => repeat (first | (with_reducible first | exact HI0.out | apply IsS57.alloc | apply IsS57.drewN | apply IsS57.drew | apply IsS57.set_1) | exact HI0.out)); (case side2 => repeat (first | (with_reducible first | exact HB.out | apply below_alloc | apply pw_below_drewN | apply below_drew1 | refine below_set ?_ (IsS57.ge HI0.out)) | exact HB.out)); rintro e w44 ⟨rfl, hi, hb, hk⟩; refine ⟨_, rfl, ?_⟩; have n0_ := Aside0.mk (Kd.R_mono (Kd.R_keep (IsS57.apart (show IsS57 w0 _ g s0_0 s0_1 from by repeat (first | (with_reducible first | exact HI0.out | apply IsS57.alloc | apply IsS57.drewN | apply IsS57.drew | apply IsS57.set_1) | exact HI0.out)) (by (with_reducible repeat (first | apply Kd.R_alloc | apply Kd.R_drewN | apply Kd.R_drew)); exact HO158.out) (by decide)) hk (fun _ h => h.2)) (fun _ h => h.1)); have n1_ := Aside0.mk (KeepBut.trans (by repeat (first | (with_reducible first | exact HK.out | apply KeepBut.set_ | apply keep_drewN | apply keep_drew | apply keep_alloc) | exact HK.out)) hk (.inl rfl)); have n2_ := Aside0.mk (hb); have n3_ := Aside0.mk (hi); clear HO158; clear HK; clear HB; clear HI0; have HO158 := n0_; have HK := n1_; have HB := n2_; have HI0 := n3_; clear n0_ n1_ n2_ n3_; (try clear hb); (try clear hb2); (try clear hk); (try clear hi); obtain ⟨Ao45, co45, eo45⟩ := Kd.R_slice HO158.out; subst eo45))
            go_ret
            exact ⟨_, by first | rfl | (simp [errW_none, errW_some] <;> rfl) | (simp [*, errW_none, errW_some] <;> rfl), by (with_reducible repeat (first | apply Kd.R_alloc | apply Kd.R_drewN | apply Kd.R_drew)); exact HO158.out, by repeat (first | (with_reducible first | exact HI0.out | apply IsS57.alloc | apply IsS57.drewN | apply IsS57.drew | apply IsS57.set_1) | exact HI0.out), by repeat (first | (with_reducible first | exact HB.out | apply below_alloc | apply pw_below_drewN | apply below_drew1 | refine below_set ?_ (IsS57.ge HI0.out)) | exact HB.out), by repeat (first | (with_reducible first | exact HK.out | apply KeepBut.set_ | apply keep_drewN | apply keep_drew | apply keep_alloc) | exact HK.out)⟩
        · rw [if_neg c25] at H
          have c25b0 : (t159 == 2) = false := beq_eq_false_iff_ne.mpr c25
          have c25b1 : (t159 != 2) = true := bne_iff_ne.mpr c25
          simp only [Option.some.injEq, Prod.mk.injEq] at H
          obtain ⟨rfl, rfl⟩ := H
          go_enter Try.func18, Try.ntmps18
          go_wp2_with (first | ((with_reducible refine gate_dst (N := 6) rfl ?_); refine Kd.R_lit (Kd.int .u8) _ 5 ?hg (N := 6) ?hd (xs := ([] : List Int)) (inner := []) (ok := fun _ => True) (okp := fun _ => True) ?hr ?hp (fun _ hk => hk) trivial (Below.refl _ _) (Nat.le_refl _) (by simp) ?_; (case hd => rfl); (case hg => rfl); (case hr => first | (go_simp; done) | (go_simp; rfl)); (case hp => exact (Reps.none _ _)); intro v154 w46 ho47 hb hg_ hnew_; clear hg_ hnew_; (first | rw [← Ny153.out] at ho47 | (simp only [Int.reduceToNat] at ho47; rw [← Ny153.out] at ho47)); have n0_ := Aside0.mk (Kd.R_lower ho47 (keep_size (w := w) (g := g) (row := none) (by repeat (first | (with_reducible first | exact HK.out | apply KeepBut.set_ | apply keep_drewN | apply keep_drew | apply keep_alloc) | exact HK.out)))); have n1_ := Aside0.mk (IsS57.below (by repeat (first | (with_reducible first | exact HI0.out | apply IsS57.alloc | apply IsS57.drewN | apply IsS57.drew | apply IsS57.set_1) | exact HI0.out)) hb); have n2_ := Aside0.mk (KeepBut.trans (by repeat (first | (with_reducible first | exact HK.out | apply KeepBut.set_ | apply keep_drewN | apply keep_drew | apply keep_alloc) | exact HK.out)) (KeepBut.of_below hb g none) (.inl rfl)); have n3_ := Aside0.mk (below_step (by repeat (first | (with_reducible first | exact HB.out | apply below_alloc | apply pw_below_drewN | apply below_drew1 | refine below_set ?_ (IsS57.ge HI0.out)) | exact HB.out)) hb); clear HI0; clear HK; clear HB; have HO155 := n0_; have HI0 := n1_; have HK := n2_; have HB := n3_; clear n0_ n1_ n2_ n3_; clear hb ho47) | ((with_reducible refine gate_builtin (b := .append) (xs := #[.tmp 6, .tmp 7]) rfl ?_); at_builtin; refine Kd.R_append_rows (Kd.int .u8) w.heap.size rfl (.tmp 6) (.tmp 7) 22 5 (.int .u8 0) 1 rfl Try.underlying22 info5 rfl (by decide) (by omega) v154 y153 l1 _ _ _ (fun _ => True) (fun _ => False) rfl rfl ?aO ?aR (fun _ _ h => h) (fun _ h => h.elim) ?aF (Below.refl _ _) ?aS ?aL ?_; (case aR => exact Kd.C_keep 0 HR1.out (by repeat (first | (with_reducible first | exact HK.out | apply KeepBut.set_ | apply keep_drewN | apply keep_drew | apply keep_alloc) | exact HK.out)) hf1); (case aF => exact (fun _ _ => trivial)); (case aO => exact (by (with_reducible repeat (first | apply Kd.R_alloc | apply Kd.R_drewN | apply Kd.R_drew)); exact HO155.out)); (case aS => exact (keep_size (w := w) (g := g) (row := none) (by repeat (first | (with_reducible first | exact HK.out | apply KeepBut.set_ | apply keep_drewN | apply keep_drew | apply keep_alloc) | exact HK.out)))); (case aL => have := LMc3.out; omega); intro v157 w48 ho hb hg hat; rw [← Ny156.out] at ho; have n0_ := Aside0.mk (IsS57.grown (by repeat (first | (with_reducible first | exact HI0.out | apply IsS57.alloc | apply IsS57.drewN | apply IsS57.drew | apply IsS57.set_1) | exact HI0.out)) hg (IsS57.own_ne HI0.out HO155.out (by decide))); have n1_ := Aside0.mk (below_weaken (by repeat (first | (with_reducible first | exact HB.out | apply below_alloc | apply pw_below_drewN | apply below_drew1 | refine below_set ?_ (IsS57.ge HI0.out)) | exact HB.out)) HL.out hb); have n2_ := Aside0.mk (KeepBut.trans (by repeat (first | (with_reducible first | exact HK.out | apply KeepBut.set_ | apply keep_drewN | apply keep_drew | apply keep_alloc) | exact HK.out)) (KeepBut.of_grown hg g) (Kd.R_base2 HO155.out)); have n3_ := Aside0.mk (ho); clear HI0; clear HB; clear HK; clear HO155; have HI0 := n0_; have HB := n1_; have HK := n2_; have HO158 := n3_; clear n0_ n1_ n2_ n3_; clear ho hb hg hat) | ((with_reducible refine gate_callee (f := 20) rfl ?_); refine goesL_ (some 10) rfl rfl Try.func20 (by kernel_rfl) rfl #[.pointer (some ⟨g, 0, none⟩), .int .i64 4] rfl (by (try simp only [List.map_toArray, List.map_cons, List.map_nil]); first | done | rfl | (simp only [List.length_drop, List.length_take]; rfl)) ?_; (with_reducible refine (shapesearchkeep_Src_N.calls g s0_0 s0_1 4 t159 t160 w0 _ ?side1 ?side2 A4.out).mono ?_); (case side1 => repeat (first | (with_reducible first | exact HI0.out | apply IsS57.alloc | apply IsS57.drewN | apply IsS57.drew | apply IsS57.set_1) | exact HI0.out)); (case side2 => repeat (first | (with_reducible first | exact HB.out | apply below_alloc | apply pw_below_drewN | apply below_drew1 | refine below_set ?_ (IsS57.ge HI0.out)) | exact HB.out)); rintro e w49 ⟨rfl, hi, hb, hk⟩; refine ⟨_, rfl, ?_⟩; have n0_ := Aside0.mk (Kd.R_mono (Kd.R_keep (IsS57.apart (show IsS57 w0 _ g s0_0 s0_1 from by repeat (first | (with_reducible first | exact HI0.out | apply IsS57.alloc | apply IsS57.drewN | apply IsS57.drew | apply IsS57.set_1) | exact HI0.out)) (by (with_reducible repeat (first | apply Kd.R_alloc | apply Kd.R_drewN | apply Kd.R_drew)); exact HO158.out) (by decide)) hk (fun _ h => h.2)) (fun _ h => h.1)); have n1_ := Aside0.mk (KeepBut.trans (by repeat (first | (with_reducible first | exact HK.out | apply KeepBut.set_ | apply keep_drewN | apply keep_drew | apply keep_alloc) | exact HK.out)) hk (.inl rfl)); have n2_ := Aside0.mk (hb); have n3_ := Aside0.mk (hi); clear HO158; clear HK; clear HB; clear HI0; have HO158 := n0_; have HK := n1_; have HB := n2_; have HI0 := n3_; clear n0_ n1_ n2_ n3_; (try clear hb); (try clear hb2); (try clear hk); (try clear hi)))
          go_ret
          exact ⟨_, by first | rfl | (simp [errW_none, errW_some] <;> rfl) | (simp [*, errW_none, errW_some] <;> rfl), by (with_reducible repeat (first | apply Kd.R_alloc | apply Kd.R_drewN | apply Kd.R_drew)); exact HO158.out, by repeat (first | (with_reducible first | exact HI0.out | apply IsS57.alloc | apply IsS57.drewN | apply IsS57.drew | apply IsS57.set_1) | exact HI0.out), by repeat (first | (with_reducible first | exact HB.out | apply below_alloc | apply pw_below_drewN | apply below_drew1 | refine below_set ?_ (IsS57.ge HI0.out)) | exact HB.out), by repeat (first | (with_reducible first | exact HK.out | apply KeepBut.set_ | apply keep_drewN | apply keep_drew | apply keep_alloc) | exact HK.out)⟩
  · rw [if_neg c3] at H
    exact absurd H (by simp)

/-! ### shapesearchref03_unfolded: function 31 -/
def shapesearchref03_unfolded.f (a0 : Int) : Option (Int) := if (Int.tmod a0 2) = 0 then (some (wrap64 (IntKind.u64.wrap (Int.tdiv a0 2)))) else (some (wrap64 ((wrap64 (-(wrap64 (IntKind.u64.wrap (Int.tdiv a0 2))))) - 1)))
set_option maxHeartbeats 8000000 in
set_option maxRecDepth 100000 in
theorem shapesearchref03_unfolded.calls (a0 : Int) (r : Int) (w : World) (h : shapesearchref03_unfolded.f a0 = some r) :
    Calls Try.prog 31 #[.int .u64 a0] w fun e w' => e = .returned (.int .i64 r) ∧ Drawn0 w w' := by
  have H : (if (Int.tmod a0 2) = 0 then (some (wrap64 (IntKind.u64.wrap (Int.tdiv a0 2)))) else (some (wrap64 ((wrap64 (-(wrap64 (IntKind.u64.wrap (Int.tdiv a0 2))))) - 1)))) = some r := h
  clear h
  by_cases c2 : (Int.tmod a0 2) = 0
  · rw [if_pos c2] at H
    have c2b0 : ((Int.tmod a0 2) == 0) = true := beq_iff_eq.mpr c2
    have c2b1 : ((Int.tmod a0 2) != 0) = false := bne_eq_false_iff_eq.mpr c2
    clear c2
    obtain rfl := Option.some.inj H
    go_enter Try.func31, Try.ntmps31
    go_wp2
    go_ret
    exact ⟨by first | rfl | (simp; done) | (simp [*]; done), by repeat (first | exact Drawn0.refl _ | apply Drawn0.step)⟩
  · rw [if_neg c2] at H
    have c2b0 : ((Int.tmod a0 2) == 0) = false := beq_eq_false_iff_ne.mpr c2
    have c2b1 : ((Int.tmod a0 2) != 0) = true := bne_iff_ne.mpr c2
    obtain rfl := Option.some.inj H
    go_enter Try.func31, Try.ntmps31
    go_wp2
    go_ret
    exact ⟨by first | rfl | (simp; done) | (simp [*]; done), by repeat (first | exact Drawn0.refl _ | apply Drawn0.step)⟩

/-! ### shapesearchref03_Int: function 19 -/
mutual
def shapesearchref03_Int.j0 : Nat → List Int → Int → Bool → Option (Int × Int × Int)
  | 0, _, _, _ => none
  | k + 1, x0, x1, x17 => if x17 = true then (some (0, 0, 1)) else (shapesearchref03_Int.l0 k x0 x1 0 0)
def shapesearchref03_Int.l0 : Nat → List Int → Int → Int → Int → Option (Int × Int × Int)
  | 0, _, _, _, _ => none
  | k + 1, x0, x1, x7, x8 => if x8 < 10 then (if (wrap64 (x1 + x8)) ≥ (x0.length : Int) then (some (0, 0, 2)) else (if 0 ≤ (wrap64 (x1 + x8)) then (if (wrap64 (x1 + x8)) < (x0.length : Int) then (if x8 = 9 then (shapesearchref03_Int.j2 k x0 x1 x7 x8 (rd x0 (wrap64 (x1 + x8))) (decide ((rd x0 (wrap64 (x1 + x8))) > 1))) else (shapesearchref03_Int.j2 k x0 x1 x7 x8 (rd x0 (wrap64 (x1 + x8))) false)) else (none)) else (none))) else (some (0, 0, 3))
def shapesearchref03_Int.j2 : Nat → List Int → Int → Int → Int → Int → Bool → Option (Int × Int × Int)
  | 0, _, _, _, _, _, _ => none
  | k + 1, x0, x1, x7, x8, x9, x39 => if x39 = true then (some (0, 0, 3)) else (if 0 ≤ (wrap64 (7 * x8)) then (if x9 < 128 then (if x9 = 0 then (if x8 > 0 then (some (0, 0, 3)) else ((shapesearchref03_unfolded.f (IntKind.u64.wrap (x7 + (shl .u64 (IntKind.u64.wrap (Int.tmod x9 128)) (wrap64 (7 * x8)))))).bind fun t178 => (some (t178, wrap64 ((wrap64 (x1 + x8)) + 1), 0)))) else ((shapesearchref03_unfolded.f (IntKind.u64.wrap (x7 + (shl .u64 (IntKind.u64.wrap (Int.tmod x9 128)) (wrap64 (7 * x8)))))).bind fun t179 => (some (t179, wrap64 ((wrap64 (x1 + x8)) + 1), 0)))) else (shapesearchref03_Int.l0 k x0 x1 (IntKind.u64.wrap (x7 + (shl .u64 (IntKind.u64.wrap (Int.tmod x9 128)) (wrap64 (7 * x8))))) (wrap64 (x8 + 1)))) else (none))
end
def shapesearchref03_Int.f (k : Nat) (l0 : List Int) (a1 : Int) : Option (Int × Int × Int) := if a1 < 0 then (shapesearchref03_Int.j0 k l0 a1 true) else (shapesearchref03_Int.j0 k l0 a1 (decide (a1 > (l0.length : Int))))
theorem shapesearchref03_Int.mono_l : ∀ k, (∀ y0 y1 y2, LeO (shapesearchref03_Int.j0 k y0 y1 y2) (shapesearchref03_Int.j0 (k + 1) y0 y1 y2)) ∧ (∀ y0 y1 y2 y3, LeO (shapesearchref03_Int.l0 k y0 y1 y2 y3) (shapesearchref03_Int.l0 (k + 1) y0 y1 y2 y3)) ∧ (∀ y0 y1 y2 y3 y4 y5, LeO (shapesearchref03_Int.j2 k y0 y1 y2 y3 y4 y5) (shapesearchref03_Int.j2 (k + 1) y0 y1 y2 y3 y4 y5))
  | 0 => ⟨fun _ _ _ r h => by simp [shapesearchref03_Int.j0] at h, fun _ _ _ _ r h => by simp [shapesearchref03_Int.l0] at h, fun _ _ _ _ _ _ r h => by simp [shapesearchref03_Int.j2] at h⟩
  | k + 1 => by
    obtain ⟨ih0, ih1, ih2⟩ := shapesearchref03_Int.mono_l k
    refine ⟨?_, ?_, ?_⟩
    · intro y0 y1 y2
      unfold shapesearchref03_Int.j0
      repeat' first
      | (with_reducible exact ih0 _ _ _)
      | (with_reducible exact ih1 _ _ _ _)
      | (with_reducible exact ih2 _ _ _ _ _ _)
      | (with_reducible exact LeO.refl _)
      | (with_reducible exact LeO.none _)
      | (with_reducible refine LeO.ite ?_ ?_)
      | (with_reducible refine LeO.bind ?_ (fun _ => ?_))
      | exact ih0 _ _ _
      | exact ih1 _ _ _ _
      | exact ih2 _ _ _ _ _ _
      | exact LeO.none _
      | refine LeO.ite ?_ ?_
      | refine LeO.bind ?_ (fun _ => ?_)
    · intro y0 y1 y2 y3
      unfold shapesearchref03_Int.l0
      repeat' first
      | (with_reducible exact ih0 _ _ _)
      | (with_reducible exact ih1 _ _ _ _)
      | (with_reducible exact ih2 _ _ _ _ _ _)
      | (with_reducible exact LeO.refl _)
      | (with_reducible exact LeO.none _)
      | (with_reducible refine LeO.ite ?_ ?_)
      | (with_reducible refine LeO.bind ?_ (fun _ => ?_))
      | exact ih0 _ _ _
      | exact ih1 _ _ _ _
      | exact ih2 _ _ _ _ _ _
      | exact LeO.none _
      | refine LeO.ite ?_ ?_
      | refine LeO.bind ?_ (fun _ => ?_)
    · intro y0 y1 y2 y3 y4 y5
      unfold shapesearchref03_Int.j2
      repeat' first
      | (with_reducible exact ih0 _ _ _)
      | (with_reducible exact ih1 _ _ _ _)
      | (with_reducible exact ih2 _ _ _ _ _ _)
      | (with_reducible exact LeO.refl _)
      | (with_reducible exact LeO.none _)
      | (with_reducible refine LeO.ite ?_ ?_)
      | (with_reducible refine LeO.bind ?_ (fun _ => ?_))
      | exact ih0 _ _ _
      | exact ih1 _ _ _ _
      | exact ih2 _ _ _ _ _ _
      | exact LeO.none _
      | refine LeO.ite ?_ ?_
      | refine LeO.bind ?_ (fun _ => ?_)
theorem shapesearchref03_Int.mono : ∀ a0 a1 k, LeO (shapesearchref03_Int.f k a0 a1) (shapesearchref03_Int.f (k + 1) a0 a1) := by
  intro a0 a1 k
  obtain ⟨ih0, ih1, ih2⟩ := shapesearchref03_Int.mono_l k
  unfold shapesearchref03_Int.f
  repeat' first
      | (with_reducible exact ih0 _ _ _)
      | (with_reducible exact ih1 _ _ _ _)
      | (with_reducible exact ih2 _ _ _ _ _ _)
      | (with_reducible exact LeO.refl _)
      | (with_reducible exact LeO.none _)
      | (with_reducible refine LeO.ite ?_ ?_)
      | (with_reducible refine LeO.bind ?_ (fun _ => ?_))
      | exact ih0 _ _ _
      | exact ih1 _ _ _ _
      | exact ih2 _ _ _ _ _ _
      | exact LeO.none _
      | refine LeO.ite ?_ ?_
      | refine LeO.bind ?_ (fun _ => ?_)
set_option maxHeartbeats 8000000 in
set_option maxRecDepth 100000 in
theorem shapesearchref03_Int.calls (k : Nat) (A0 : Option Addr) (c0 : Nat) (l0 : List Int) (a1 : Int) (r1 : Int) (r2 : Int) (r3 : Int) (w : World) (hr0 : Kd.C (Kd.int .u8) w A0 l0.length l0) (hc0 : l0.length ≤ c0) (h : shapesearchref03_Int.f k l0 a1 = some (r1, r2, r3)) :
    Calls Try.prog 19 #[.slice A0 l0.length c0, .int .i64 a1] w fun e w' => e = .returned (.tuple #[.int .i64 r1, .int .i64 r2, .int .i64 r3]) ∧ Drawn0 w w' := by
  have HR0 := Aside0.mk hr0
  have HC0 := Aside0.mk hc0
  clear hr0 hc0
  have H : (if a1 < 0 then (shapesearchref03_Int.j0 k l0 a1 true) else (shapesearchref03_Int.j0 k l0 a1 (decide (a1 > (l0.length : Int))))) = some (r1, r2, r3) := h
  clear h
  have HC3 := Aside0.mk H
  clear H
  go_enter Try.func19, Try.ntmps19
  go_upto_region 1 with (fail)
  go_cut [17] (fun v17 wc => ∃ (kq : Nat) (x17_2 : Bool), v17 = .bool x17_2 ∧ Aside0 (shapesearchref03_Int.j0 kq l0 a1 x17_2 = some (r1, r2, r3)) ∧ Aside0 (kq ≤ k) ∧ Drawn0 w wc)
  case first =>
    have H := HC3.out
    clear HC3
    by_cases c4 : a1 < 0
    · rw [if_pos c4] at H
      have c4b0 : decide (a1 < 0) = true := decide_eq_true c4
      clear c4
      (first | rw [c4b0] | (simp only [i64_w, i32_w]; rw [c4b0]) | skip)
      have H' := Aside0.mk H
      clear H
      go_wp2
      go_meet
      case rel => exact ⟨_, (true), (by first | rfl | (simp; done) | (simp [*]; done)), H', ⟨by first | omega | exact Nat.le_refl _⟩, by repeat (first | exact Drawn0.refl _ | apply Drawn0.step)⟩
    · rw [if_neg c4] at H
      have c4b0 : decide (a1 < 0) = false := decide_eq_false c4
      clear c4
      (first | rw [c4b0] | (simp only [i64_w, i32_w]; rw [c4b0]) | skip)
      have H' := Aside0.mk H
      clear H
      go_wp2
      go_meet
      case rel => exact ⟨_, (decide (a1 > (l0.length : Int))), (by first | rfl | (simp; done) | (simp [*]; done)), H', ⟨by first | omega | exact Nat.le_refl _⟩, by repeat (first | exact Drawn0.refl _ | apply Drawn0.step)⟩
  case rest =>
    clear HC3
    try clear c1
    try clear p2
    try clear c4
    try clear c4b0
    obtain ⟨kq, x17_2, rfl, HA, HJ2, ⟨mc2, rfl⟩⟩ := hcut
    cases kq with
    | zero => exact absurd HA.out (by simp [shapesearchref03_Int.j0])
    | succ kj2 =>
      have H := HA.out
      clear HA
      simp only [shapesearchref03_Int.j0] at H
      by_cases c5 : x17_2 = true
      · subst c5
        have H1 : (some (0, 0, 1)) = some (r1, r2, r3) := by rw [if_pos rfl] at H; exact H
        clear H
        have H := H1
        clear H1
        simp only [Option.some.injEq, Prod.mk.injEq] at H
        obtain ⟨rfl, rfl, rfl⟩ := H
        go_wp2
        go_ret3
        exact ⟨by first | rfl | (simp; done) | (simp [*]; done), by repeat (first | exact Drawn0.refl _ | apply Drawn0.step)⟩
      · replace c5 := Bool.eq_false_iff.mpr c5
        subst c5
        have H1 : (shapesearchref03_Int.l0 kj2 l0 a1 0 0) = some (r1, r2, r3) := by rw [if_neg (show ¬ (false = true) by decide)] at H; exact H
        clear H
        have H := H1
        clear H1
        have H' := Aside0.mk H
        clear H
        go_wp2
        go_loopg [7, 8] kj2 (fun kq v7 v8 w' => ∃ (x7_2 : Int) (x8_2 : Int), v7 = .int .u64 x7_2 ∧ v8 = .int .i64 x8_2 ∧ Aside0 (shapesearchref03_Int.l0 kq l0 a1 x7_2 x8_2 = some (r1, r2, r3)) ∧ Aside0 (kq ≤ kj2) ∧ Drawn0 w w')
        case atStart => exact ⟨(0), (0), (by first | rfl | (simp; done) | (simp [*]; done)), (by first | rfl | (simp; done) | (simp [*]; done)), H', ⟨Nat.le_refl _⟩, by repeat (first | exact Drawn0.refl _ | apply Drawn0.step)⟩
        case round =>
          clear H'
          try clear c1
          try clear c2
          try clear p2
          try clear c4
          try clear c4b0
          try clear c5
          try clear p2
          obtain ⟨x7_2, x8_2, rfl, rfl, HA, HK2, ⟨m2, rfl⟩⟩ := hrel
          cases gk with
          | zero => exact absurd HA.out (by simp [shapesearchref03_Int.l0])
          | succ k2 =>
            have H := HA.out
            clear HA
            simp only [shapesearchref03_Int.l0] at H
            by_cases c6 : x8_2 < 10
            · rw [if_pos c6] at H
              have c6b0 : decide (x8_2 < 10) = true := decide_eq_true c6
              clear c6
              by_cases c7 : (wrap64 (a1 + x8_2)) ≥ (l0.length : Int)
              · rw [if_pos c7] at H
                have c7b0 : decide ((l0.length : Int) ≤ (wrap64 (a1 + x8_2))) = true := decide_eq_true c7
                clear c7
                simp only [Option.some.injEq, Prod.mk.injEq] at H
                obtain ⟨rfl, rfl, rfl⟩ := H
                go_wp2
                go_ret3
                exact ⟨by first | rfl | (simp; done) | (simp [*]; done), by repeat (first | exact Drawn0.refl _ | apply Drawn0.step)⟩
              · rw [if_neg c7] at H
                have c7b0 : decide ((l0.length : Int) ≤ (wrap64 (a1 + x8_2))) = false := decide_eq_false c7
                clear c7
                obtain ⟨ji8, hji8⟩ : ∃ j_ : Int, (wrap64 (a1 + x8_2)) = j_ := ⟨_, rfl⟩
                replace H : (if 0 ≤ (ji8) then (if (ji8) < (l0.length : Int) then (if x8_2 = 9 then (shapesearchref03_Int.j2 k2 l0 a1 x7_2 x8_2 (rd l0 (ji8)) (decide ((rd l0 (ji8)) > 1))) else (shapesearchref03_Int.j2 k2 l0 a1 x7_2 x8_2 (rd l0 (ji8)) false)) else (none)) else (none)) = some (r1, r2, r3) := by first | (rw [hji8] at H; exact H) | (simp only [hji8] at H ⊢; exact H)
                (try rw [hji8] at c7b0)
                have hji8w : (IntKind.i64.wrap (a1 + x8_2)) = ji8 := (i64_w _).trans hji8
                by_cases c9 : 0 ≤ (ji8)
                · rw [if_pos c9] at H
                  have c9b0 : decide (0 ≤ (ji8)) = true := decide_eq_true c9
                  clear c9
                  by_cases c10 : (ji8) < (l0.length : Int)
                  · rw [if_pos c10] at H
                    have c10b0 : decide ((ji8) < (l0.length : Int)) = true := decide_eq_true c10
                    clear c10
                    have HC11 := Aside0.mk H
                    clear H
                    have p177 : 0 ≤ ((ji8) : Int) := of_decide_eq_true (by first | (with_reducible assumption) | assumption)
                    have q177 : (ji8) < (l0.length : Int) := of_decide_eq_true (by first | (with_reducible assumption) | assumption)
                    obtain ⟨ad177, e177, hx177_0⟩ := Kd.at_int HR0.out (ji8) p177 q177
                    cases e177
                    replace p177 := eq_true p177
                    replace q177 := eq_true q177
                    go_upto_region 10 with (fail)
                    go_cut [39] (fun v39 wc => ∃ (kq : Nat) (x39_10 : Bool), v39 = .bool x39_10 ∧ Aside0 (shapesearchref03_Int.j2 kq l0 a1 x7_2 x8_2 (rd l0 (ji8)) x39_10 = some (r1, r2, r3)) ∧ Aside0 (kq ≤ k2) ∧ Drawn0 w wc)
                    case first =>
                      have H := HC11.out
                      clear HC11
                      by_cases c12 : x8_2 = 9
                      · rw [if_pos c12] at H
                        have c12b0 : (x8_2 == 9) = true := beq_iff_eq.mpr c12
                        have c12b1 : (x8_2 != 9) = false := bne_eq_false_iff_eq.mpr c12
                        clear c12
                        (first | rw [c12b0] | (simp only [i64_w, i32_w]; rw [c12b0]) | skip)
                        have H' := Aside0.mk H
                        clear H
                        go_wp2
                        go_meet
                        case rel => exact ⟨_, (decide ((rd l0 (ji8)) > 1)), (by first | rfl | (simp; done) | (simp only [← hji8] <;> (first | rfl | simp)) | (simp [*]; done)), H', ⟨by have := HJ2.out; have := HK2.out; first | omega | exact Nat.le_refl _⟩, by repeat (first | exact Drawn0.refl _ | apply Drawn0.step)⟩
                      · rw [if_neg c12] at H
                        have c12b0 : (x8_2 == 9) = false := beq_eq_false_iff_ne.mpr c12
                        have c12b1 : (x8_2 != 9) = true := bne_iff_ne.mpr c12
                        (first | rw [c12b0] | (simp only [i64_w, i32_w]; rw [c12b0]) | skip)
                        have H' := Aside0.mk H
                        clear H
                        go_wp2
                        go_meet
                        case rel => exact ⟨_, (false), (by first | rfl | (simp; done) | (simp [*]; done)), H', ⟨by have := HJ2.out; have := HK2.out; first | omega | exact Nat.le_refl _⟩, by repeat (first | exact Drawn0.refl _ | apply Drawn0.step)⟩
                    case rest =>
                      clear HC11
                      try clear c1
                      try clear p1
                      try clear q1
                      try clear hx1
                      try clear c2
                      try clear p2
                      try clear c4
                      try clear c4b0
                      try clear c5
                      try clear c6
                      try clear c6b0
                      try clear p6
                      try clear c7
                      try clear c7b0
                      try clear c9
                      try clear c9b0
                      try clear c10
                      try clear c10b0
                      try clear c12
                      try clear c12b0
                      try clear c12b1
                      try clear hx177_0
                      try clear p177
                      try clear p2
                      try clear q177
                      obtain ⟨kq, x39_10, rfl, HA, HJ10, ⟨mc10, rfl⟩⟩ := hcut
                      cases kq with
                      | zero => exact absurd HA.out (by simp [shapesearchref03_Int.j2])
                      | succ kj10 =>
                        have H := HA.out
                        clear HA
                        simp only [shapesearchref03_Int.j2] at H
                        by_cases c13 : x39_10 = true
                        · subst c13
                          have H1 : (some (0, 0, 3)) = some (r1, r2, r3) := by rw [if_pos rfl] at H; exact H
                          clear H
                          have H := H1
                          clear H1
                          simp only [Option.some.injEq, Prod.mk.injEq] at H
                          obtain ⟨rfl, rfl, rfl⟩ := H
                          go_wp2
                          go_ret3
                          exact ⟨by first | rfl | (simp; done) | (simp only [← hji8] <;> (first | rfl | simp)) | (simp [*]; done), by repeat (first | exact Drawn0.refl _ | apply Drawn0.step)⟩
                        · replace c13 := Bool.eq_false_iff.mpr c13
                          subst c13
                          have H1 : (if 0 ≤ (wrap64 (7 * x8_2)) then (if (rd l0 (ji8)) < 128 then (if (rd l0 (ji8)) = 0 then (if x8_2 > 0 then (some (0, 0, 3)) else ((shapesearchref03_unfolded.f (IntKind.u64.wrap (x7_2 + (shl .u64 (IntKind.u64.wrap (Int.tmod (rd l0 (ji8)) 128)) (wrap64 (7 * x8_2)))))).bind fun t178 => (some (t178, wrap64 ((wrap64 (a1 + x8_2)) + 1), 0)))) else ((shapesearchref03_unfolded.f (IntKind.u64.wrap (x7_2 + (shl .u64 (IntKind.u64.wrap (Int.tmod (rd l0 (ji8)) 128)) (wrap64 (7 * x8_2)))))).bind fun t179 => (some (t179, wrap64 ((wrap64 (a1 + x8_2)) + 1), 0)))) else (shapesearchref03_Int.l0 kj10 l0 a1 (IntKind.u64.wrap (x7_2 + (shl .u64 (IntKind.u64.wrap (Int.tmod (rd l0 (ji8)) 128)) (wrap64 (7 * x8_2))))) (wrap64 (x8_2 + 1)))) else (none)) = some (r1, r2, r3) := by rw [if_neg (show ¬ (false = true) by decide)] at H; exact H
                          clear H
                          have H := H1
                          clear H1
                          obtain ⟨ji14, hji14⟩ : ∃ j_ : Int, (wrap64 (7 * x8_2)) = j_ := ⟨_, rfl⟩
                          replace H : (if 0 ≤ (ji14) then (if (rd l0 (ji8)) < 128 then (if (rd l0 (ji8)) = 0 then (if x8_2 > 0 then (some (0, 0, 3)) else ((shapesearchref03_unfolded.f (IntKind.u64.wrap (x7_2 + (shl .u64 (IntKind.u64.wrap (Int.tmod (rd l0 (ji8)) 128)) (ji14))))).bind fun t178 => (some (t178, wrap64 ((wrap64 (a1 + x8_2)) + 1), 0)))) else ((shapesearchref03_unfolded.f (IntKind.u64.wrap (x7_2 + (shl .u64 (IntKind.u64.wrap (Int.tmod (rd l0 (ji8)) 128)) (ji14))))).bind fun t179 => (some (t179, wrap64 ((wrap64 (a1 + x8_2)) + 1), 0)))) else (shapesearchref03_Int.l0 kj10 l0 a1 (IntKind.u64.wrap (x7_2 + (shl .u64 (IntKind.u64.wrap (Int.tmod (rd l0 (ji8)) 128)) (ji14)))) (wrap64 (x8_2 + 1)))) else (none)) = some (r1, r2, r3) := by first | (rw [hji14] at H; exact H) | (simp only [hji14] at H ⊢; exact H)
                          have hji14w : (IntKind.i64.wrap (7 * x8_2)) = ji14 := (i64_w _).trans hji14
                          by_cases c15 : 0 ≤ (ji14)
                          · rw [if_pos c15] at H
                            have c15b0 := eq_true c15
                            have c15b1 : decide (0 ≤ (ji14)) = true := decide_eq_true c15
                            clear c15
                            obtain ⟨ji16, hji16⟩ : ∃ j_ : Int, (shl .u64 (IntKind.u64.wrap (Int.tmod (rd l0 (ji8)) 128)) (ji14)) = j_ := ⟨_, rfl⟩
                            replace H : (if (rd l0 (ji8)) < 128 then (if (rd l0 (ji8)) = 0 then (if x8_2 > 0 then (some (0, 0, 3)) else ((shapesearchref03_unfolded.f (IntKind.u64.wrap (x7_2 + (ji16)))).bind fun t178 => (some (t178, wrap64 ((wrap64 (a1 + x8_2)) + 1), 0)))) else ((shapesearchref03_unfolded.f (IntKind.u64.wrap (x7_2 + (ji16)))).bind fun t179 => (some (t179, wrap64 ((wrap64 (a1 + x8_2)) + 1), 0)))) else (shapesearchref03_Int.l0 kj10 l0 a1 (IntKind.u64.wrap (x7_2 + (ji16))) (wrap64 (x8_2 + 1)))) = some (r1, r2, r3) := by first | (rw [hji16] at H; exact H) | (simp only [hji16] at H ⊢; exact H)
                            have hji16_ : (IntKind.u64.wrap ((IntKind.u64.wrap (Int.tmod (rd l0 (ji8)) 128)) * 2 ^ min (ji14).toNat 64)) = ji16 := hji16
                            have hji16z : (ji14) ≤ 64 → (IntKind.u64.wrap ((IntKind.u64.wrap (Int.tmod (rd l0 (ji8)) 128)) * 2 ^ (ji14).toNat)) = ji16 := shl_small hji16
                            by_cases c17 : (rd l0 (ji8)) < 128
                            · rw [if_pos c17] at H
                              have c17b0 : decide ((rd l0 (ji8)) < 128) = true := decide_eq_true c17
                              clear c17
                              by_cases c18 : (rd l0 (ji8)) = 0
                              · rw [if_pos c18] at H
                                have c18b0 : ((rd l0 (ji8)) == 0) = true := beq_iff_eq.mpr c18
                                have c18b1 : ((rd l0 (ji8)) != 0) = false := bne_eq_false_iff_eq.mpr c18
                                clear c18
                                by_cases c19 : x8_2 > 0
                                · rw [if_pos c19] at H
                                  have c19b0 : decide (0 < x8_2) = true := decide_eq_true c19
                                  clear c19
                                  simp only [Option.some.injEq, Prod.mk.injEq] at H
                                  obtain ⟨rfl, rfl, rfl⟩ := H
                                  go_wp2
                                  go_ret3
                                  exact ⟨by first | rfl | (simp; done) | (simp only [← hji8, ← hji14, ← hji16] <;> (first | rfl | simp)) | (simp [*]; done), by repeat (first | exact Drawn0.refl _ | apply Drawn0.step)⟩
                                · rw [if_neg c19] at H
                                  have c19b0 : decide (0 < x8_2) = false := decide_eq_false c19
                                  clear c19
                                  replace H := Option.bind_eq_some_iff.mp H
                                  obtain ⟨t178, A200, H⟩ := H
                                  replace H : (some (t178, wrap64 ((wrap64 (a1 + x8_2)) + 1), 0)) = some (r1, r2, r3) := H
                                  have A20 := Aside0.mk A200
                                  clear A200
                                  simp only [Option.some.injEq, Prod.mk.injEq] at H
                                  obtain ⟨rfl, rfl, rfl⟩ := H
                                  go_wp2_with (first | ((with_reducible refine gate_callee (f := 31) rfl ?_); refine goesL_ (some 57) rfl rfl Try.func31 (by kernel_rfl) rfl #[.int .u64 (IntKind.u64.wrap (x7_2 + (ji16)))] rfl (by (try simp only [List.map_toArray, List.map_cons, List.map_nil]); first | done | (simp only [hji16]; rfl) | rfl | (simp only [List.length_drop, List.length_take]; rfl)) ?_; (with_reducible refine (shapesearchref03_unfolded.calls (IntKind.u64.wrap (x7_2 + (ji16))) t178 _ A20.out).mono ?_); rintro e w' ⟨rfl, ⟨nd, rfl⟩⟩; refine ⟨_, rfl, ?_⟩))
                                  go_ret3
                                  exact ⟨by first | rfl | (simp; done) | (simp only [← hji8, ← hji14, ← hji16] <;> (first | rfl | simp)) | (simp [*]; done), by repeat (first | exact Drawn0.refl _ | apply Drawn0.step)⟩
                              · rw [if_neg c18] at H
                                have c18b0 : ((rd l0 (ji8)) == 0) = false := beq_eq_false_iff_ne.mpr c18
                                have c18b1 : ((rd l0 (ji8)) != 0) = true := bne_iff_ne.mpr c18
                                replace H := Option.bind_eq_some_iff.mp H
                                obtain ⟨t179, A210, H⟩ := H
                                replace H : (some (t179, wrap64 ((wrap64 (a1 + x8_2)) + 1), 0)) = some (r1, r2, r3) := H
                                have A21 := Aside0.mk A210
                                clear A210
                                simp only [Option.some.injEq, Prod.mk.injEq] at H
                                obtain ⟨rfl, rfl, rfl⟩ := H
                                go_wp2_with (first | ((with_reducible refine gate_callee (f := 31) rfl ?_); refine goesL_ (some 57) rfl rfl Try.func31 (by kernel_rfl) rfl #[.int .u64 (IntKind.u64.wrap (x7_2 + (ji16)))] rfl (by (try simp only [List.map_toArray, List.map_cons, List.map_nil]); first | done | (simp only [hji16]; rfl) | rfl | (simp only [List.length_drop, List.length_take]; rfl)) ?_; (with_reducible refine (shapesearchref03_unfolded.calls (IntKind.u64.wrap (x7_2 + (ji16))) t179 _ A21.out).mono ?_); rintro e w' ⟨rfl, ⟨nd, rfl⟩⟩; refine ⟨_, rfl, ?_⟩))
                                go_ret3
                                exact ⟨by first | rfl | (simp; done) | (simp only [← hji8, ← hji14, ← hji16] <;> (first | rfl | simp)) | (simp [*]; done), by repeat (first | exact Drawn0.refl _ | apply Drawn0.step)⟩
                            · rw [if_neg c17] at H
                              have c17b0 : decide ((rd l0 (ji8)) < 128) = false := decide_eq_false c17
                              clear c17
                              have H' := Aside0.mk H
                              clear H
                              go_wp2
                              go_roundg kj10
                              case measure => have := HJ2.out; have := HK2.out; have := HJ10.out; omega
                              case rel => exact ⟨(IntKind.u64.wrap (x7_2 + (ji16))), (wrap64 (x8_2 + 1)), (by first | rfl | (simp; done) | (simp only [← hji16] <;> (first | rfl | simp)) | (simp [*]; done)), (by first | rfl | (simp; done) | (simp [*]; done)), H', ⟨by have := HJ2.out; have := HK2.out; have := HJ10.out; omega⟩, by repeat (first | exact Drawn0.refl _ | apply Drawn0.step)⟩
                          · rw [if_neg c15] at H
                            exact absurd H (by simp)
                  · rw [if_neg c10] at H
                    exact absurd H (by simp)
                · rw [if_neg c9] at H
                  exact absurd H (by simp)
            · rw [if_neg c6] at H
              have c6b0 : decide (x8_2 < 10) = false := decide_eq_false c6
              clear c6
              simp only [Option.some.injEq, Prod.mk.injEq] at H
              obtain ⟨rfl, rfl, rfl⟩ := H
              go_wp2
              go_ret3
              exact ⟨by first | rfl | (simp; done) | (simp [*]; done), by repeat (first | exact Drawn0.refl _ | apply Drawn0.step)⟩

end Go.Proofs.Ytemeojkmchgkjaa.PCodecAnswers
