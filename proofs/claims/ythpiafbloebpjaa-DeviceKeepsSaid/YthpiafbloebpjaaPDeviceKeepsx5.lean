/- This file proves, function by function, what the Go functions that one law uses compute; most of it was printed by a program (wip/tools of this session, over the kit's print). -/
import Derived.Test.YthpiafbloebpjaaPDeviceKeepsx0
import Derived.Test.YthpiafbloebpjaaPDeviceKeepsx1
import Derived.Test.YthpiafbloebpjaaPDeviceKeepsx3
import Derived.Test.YthpiafbloebpjaaPDeviceKeepsx4
namespace Go.Proofs.Ythpiafbloebpjaa.PDeviceKeeps
open Go.RowKit Go.Proofs.YthpiafbloebpjaaW.PrintWords Go.Proofs.YthpiafbloebpjaaW.PrintLast Go.Proofs.YthpiafbloebpjaaW.PrintMore
attribute [local go_sem] max2_int min2_int max_two min_two max_three min_three max_four min_four   -- for this text's walks alone
set_option linter.unusedVariables false
set_option linter.unusedSimpArgs false

/-! ### shapesearchlaw24_awake: function 6 -/
def shapesearchlaw24_awake.f (k : Nat)  : Option (Bool) := (device_New.f k 2).bind fun bt157 => ((device_Write.f k bt157.1 bt157.2.1 1 (([1, 2] : List Int))).bind fun bt168 => ((device_Crash.f k bt168.1 bt168.2.1 (([1] : List Int))).bind fun bt178 => ((device_Read.f k bt178.1 bt178.2.1 1).bind fun bt185 => (if bt157.2.2 = 0 then (if bt168.2.2 = 0 then (if bt178.2.2 = 0 then (if bt185.2 = 0 then (if (bt185.1.length : Int) = 64 then (if 0 < (bt185.1.length : Int) then (if (rd bt185.1 0) = 1 then (if 1 < (bt185.1.length : Int) then (some ((rd bt185.1 1) == 0)) else (none)) else (some false)) else (none)) else (some false)) else (some false)) else (some false)) else (some false)) else (some false)))))
theorem shapesearchlaw24_awake.mono : ∀ k, LeO (shapesearchlaw24_awake.f k ) (shapesearchlaw24_awake.f (k + 1) ) := by
  intro  k
  unfold shapesearchlaw24_awake.f
  repeat' first
      | (with_reducible exact device_Crash.mono _ _ _ _)
      | (with_reducible exact device_New.mono _ _)
      | (with_reducible exact device_Read.mono _ _ _ _)
      | (with_reducible exact device_Write.mono _ _ _ _ _)
      | (with_reducible exact LeO.refl _)
      | (with_reducible exact LeO.none _)
      | (with_reducible refine LeO.ite ?_ ?_)
      | (with_reducible refine LeO.bind ?_ (fun _ => ?_))
      | exact device_Crash.mono _ _ _ _
      | exact device_New.mono _ _
      | exact device_Read.mono _ _ _ _
      | exact device_Write.mono _ _ _ _ _
      | exact LeO.none _
      | refine LeO.ite ?_ ?_
      | refine LeO.bind ?_ (fun _ => ?_)
set_option maxHeartbeats 8000000 in
set_option maxRecDepth 100000 in
theorem shapesearchlaw24_awake.calls (k : Nat)  (r : Bool) (w : World) (h : shapesearchlaw24_awake.f k  = some r) :
    Calls Try.prog 6 #[] w fun e w' => e = .returned (.bool r) ∧ Below w.heap.size w w' := by
  have hu25 := Try.underlying25
  have HB := Aside0.mk (Below.refl w.heap.size w)
  have H : ((device_New.f k 2).bind fun bt157 => ((device_Write.f k bt157.1 bt157.2.1 1 (([1, 2] : List Int))).bind fun bt168 => ((device_Crash.f k bt168.1 bt168.2.1 (([1] : List Int))).bind fun bt178 => ((device_Read.f k bt178.1 bt178.2.1 1).bind fun bt185 => (if bt157.2.2 = 0 then (if bt168.2.2 = 0 then (if bt178.2.2 = 0 then (if bt185.2 = 0 then (if (bt185.1.length : Int) = 64 then (if 0 < (bt185.1.length : Int) then (if (rd bt185.1 0) = 1 then (if 1 < (bt185.1.length : Int) then (some ((rd bt185.1 1) == 0)) else (none)) else (some false)) else (none)) else (some false)) else (some false)) else (some false)) else (some false)) else (some false)))))) = some r := h
  clear h
  replace H := Option.bind_eq_some_iff.mp H
  obtain ⟨⟨t157, t160, t163⟩, A10, H⟩ := H
  replace H : ((device_Write.f k t157 t160 1 (([1, 2] : List Int))).bind fun bt168 => ((device_Crash.f k bt168.1 bt168.2.1 (([1] : List Int))).bind fun bt178 => ((device_Read.f k bt178.1 bt178.2.1 1).bind fun bt185 => (if t163 = 0 then (if bt168.2.2 = 0 then (if bt178.2.2 = 0 then (if bt185.2 = 0 then (if (bt185.1.length : Int) = 64 then (if 0 < (bt185.1.length : Int) then (if (rd bt185.1 0) = 1 then (if 1 < (bt185.1.length : Int) then (some ((rd bt185.1 1) == 0)) else (none)) else (some false)) else (none)) else (some false)) else (some false)) else (some false)) else (some false)) else (some false))))) = some r := H
  have A1 := Aside0.mk A10
  clear A10
  obtain ⟨y165, hy165⟩ : ∃ y_ : List Int, y_ = (([1, 2] : List Int)) := ⟨_, rfl⟩
  replace H : ((device_Write.f k t157 t160 1 y165).bind fun bt168 => ((device_Crash.f k bt168.1 bt168.2.1 (([1] : List Int))).bind fun bt178 => ((device_Read.f k bt178.1 bt178.2.1 1).bind fun bt185 => (if t163 = 0 then (if bt168.2.2 = 0 then (if bt178.2.2 = 0 then (if bt185.2 = 0 then (if (bt185.1.length : Int) = 64 then (if 0 < (bt185.1.length : Int) then (if (rd bt185.1 0) = 1 then (if 1 < (bt185.1.length : Int) then (some ((rd bt185.1 1) == 0)) else (none)) else (some false)) else (none)) else (some false)) else (some false)) else (some false)) else (some false)) else (some false))))) = some r := by first | (rw [hy165]; with_reducible exact H) | (have H2_ := (Option.bind_some _ _).symm.trans H; rw [hy165]; with_reducible exact H2_) | (have H2_ := (Option.bind_some _ _).symm.trans H; with_reducible exact H2_) | with_reducible exact H | (rw [hy165]; exact H) | exact H
  have Ny165 := Aside0.mk hy165
  clear hy165
  replace H := Option.bind_eq_some_iff.mp H
  obtain ⟨⟨t168, t171, t174⟩, A20, H⟩ := H
  replace H : ((device_Crash.f k t168 t171 (([1] : List Int))).bind fun bt178 => ((device_Read.f k bt178.1 bt178.2.1 1).bind fun bt185 => (if t163 = 0 then (if t174 = 0 then (if bt178.2.2 = 0 then (if bt185.2 = 0 then (if (bt185.1.length : Int) = 64 then (if 0 < (bt185.1.length : Int) then (if (rd bt185.1 0) = 1 then (if 1 < (bt185.1.length : Int) then (some ((rd bt185.1 1) == 0)) else (none)) else (some false)) else (none)) else (some false)) else (some false)) else (some false)) else (some false)) else (some false)))) = some r := H
  have A2 := Aside0.mk A20
  clear A20
  obtain ⟨y175, hy175⟩ : ∃ y_ : List Int, y_ = (([1] : List Int)) := ⟨_, rfl⟩
  replace H : ((device_Crash.f k t168 t171 y175).bind fun bt178 => ((device_Read.f k bt178.1 bt178.2.1 1).bind fun bt185 => (if t163 = 0 then (if t174 = 0 then (if bt178.2.2 = 0 then (if bt185.2 = 0 then (if (bt185.1.length : Int) = 64 then (if 0 < (bt185.1.length : Int) then (if (rd bt185.1 0) = 1 then (if 1 < (bt185.1.length : Int) then (some ((rd bt185.1 1) == 0)) else (none)) else (some false)) else (none)) else (some false)) else (some false)) else (some false)) else (some false)) else (some false)))) = some r := by first | (rw [hy175]; with_reducible exact H) | (have H2_ := (Option.bind_some _ _).symm.trans H; rw [hy175]; with_reducible exact H2_) | (have H2_ := (Option.bind_some _ _).symm.trans H; with_reducible exact H2_) | with_reducible exact H | (rw [hy175]; exact H) | exact H
  have Ny175 := Aside0.mk hy175
  clear hy175
  replace H := Option.bind_eq_some_iff.mp H
  obtain ⟨⟨t178, t181, t184⟩, A30, H⟩ := H
  replace H : ((device_Read.f k t178 t181 1).bind fun bt185 => (if t163 = 0 then (if t174 = 0 then (if t184 = 0 then (if bt185.2 = 0 then (if (bt185.1.length : Int) = 64 then (if 0 < (bt185.1.length : Int) then (if (rd bt185.1 0) = 1 then (if 1 < (bt185.1.length : Int) then (some ((rd bt185.1 1) == 0)) else (none)) else (some false)) else (none)) else (some false)) else (some false)) else (some false)) else (some false)) else (some false))) = some r := H
  have A3 := Aside0.mk A30
  clear A30
  replace H := Option.bind_eq_some_iff.mp H
  obtain ⟨⟨t185, t188⟩, A40, H⟩ := H
  replace H : (if t163 = 0 then (if t174 = 0 then (if t184 = 0 then (if t188 = 0 then (if (t185.length : Int) = 64 then (if 0 < (t185.length : Int) then (if (rd t185 0) = 1 then (if 1 < (t185.length : Int) then (some ((rd t185 1) == 0)) else (none)) else (some false)) else (none)) else (some false)) else (some false)) else (some false)) else (some false)) else (some false)) = some r := H
  have A4 := Aside0.mk A40
  clear A40
  have HC5 := Aside0.mk H
  clear H
  go_enter Try.func6, Try.ntmps6
  go_upto_region 5 with (first | ((with_reducible refine gate_callee (f := 7) rfl ?_); refine goesL_ (some 8) rfl rfl Try.func7 (by kernel_rfl) rfl #[.int .i64 2] rfl (by (try simp only [List.map_toArray, List.map_cons, List.map_nil]); first | done | rfl | (simp only [List.length_drop, List.length_take]; rfl)) ?_; (with_reducible refine (device_New.calls k 2 t157 t160 t163 _ A1.out).mono ?_); rintro e w6 ⟨v158, v161, rfl, ho0, ho1, hb⟩; refine ⟨_, rfl, ?_⟩; have n0_ := Aside0.mk (Kd.S_lower ho0 (below_size (by repeat (first | (with_reducible first | exact HB.out | apply below_alloc | apply pw_below_drewN | apply below_drew1) | exact HB.out)))); have n1_ := Aside0.mk (Kd.S_lower ho1 (below_size (by repeat (first | (with_reducible first | exact HB.out | apply below_alloc | apply pw_below_drewN | apply below_drew1) | exact HB.out)))); have n2_ := Aside0.mk (below_step (by repeat (first | (with_reducible first | exact HB.out | apply below_alloc | apply pw_below_drewN | apply below_drew1) | exact HB.out)) hb); clear HB; have HO159 := n0_; have HO162 := n1_; have HB := n2_; clear n0_ n1_ n2_; (try clear hb); (try clear hb2); (try clear hk); (try clear hi); (try clear ho0); (try clear ho1)) | ((with_reducible refine gate_dst (N := 1) rfl ?_); (try (refine gate_guard (by rfl) ?_; dsimp only)); refine box_event ?hg (N := 1) ?hd (cs := #[.slice none 0 0, .slice none 0 0]) (t := 25) ?hr ?_; (case hd => rfl); (case hg => rfl); (case hr => first | (go_simp; done) | (go_simp; rfl)); intro gb164 hg w7 hbox hb; have n0_ := Aside0.mk (Kd.S_below (by (with_reducible repeat (first | apply Kd.S_alloc | apply Kd.S_drewN | apply Kd.S_drew)); exact HO159.out) hb); have n1_ := Aside0.mk (Kd.S_below (by (with_reducible repeat (first | apply Kd.S_alloc | apply Kd.S_drewN | apply Kd.S_drew)); exact HO162.out) hb); have n2_ := Aside0.mk (below_step (by repeat (first | (with_reducible first | exact HB.out | apply below_alloc | apply pw_below_drewN | apply below_drew1) | exact HB.out)) hb); have n3_ := Aside0.mk (hbox); have n4_ := Aside0.mk ((by rw [hg]; exact (below_size (by repeat (first | (with_reducible first | exact HB.out | apply below_alloc | apply pw_below_drewN | apply below_drew1) | exact HB.out))) : w.heap.size ≤ gb164)); have n5_ := Aside0.mk ((by rw [hg]; exact (below_size (by repeat (first | (with_reducible first | exact HB.out | apply below_alloc | apply pw_below_drewN | apply below_drew1) | exact HB.out))) : w.heap.size ≤ gb164)); clear HO159; clear HO162; clear HB; have HO159 := n0_; have HO162 := n1_; have HB := n2_; have BK164 := n3_; have GW164 := n4_; have GE164 := n5_; clear n0_ n1_ n2_ n3_ n4_ n5_; clear hb hbox hg; obtain ⟨Ao8, co8, eo8⟩ := Kd.S_slice HO159.out; subst eo8; have hcz9_0 : w7.cell? ⟨gb164, 0, none⟩ = some (.slice none 0 0) := (blk_cell BK164.out 0).trans rfl; have hcz9_1 : w7.cell? ⟨gb164, 1, none⟩ = some (.slice none 0 0) := (blk_cell BK164.out 1).trans rfl; have hfz9_0 := blk_frozen BK164.out 0; have hfz9_1 := blk_frozen BK164.out 1; obtain ⟨Ao10, co10, eo10⟩ := Kd.S_slice HO162.out; subst eo10) | ((with_reducible refine gate_dst (N := 13) rfl ?_); (try (refine gate_guard (by rfl) ?_; dsimp only)); refine Kd.R_lit (Kd.int .u8) _ 5 ?hg (N := 13) ?hd (xs := ([1, 2] : List Int)) (inner := [.int .u8 1, .int .u8 2]) (ok := fun _ => True) (okp := fun _ => True) ?hr ?hp (fun _ hk => hk) trivial (Below.refl _ _) (Nat.le_refl _) (by simp) ?_; (case hd => rfl); (case hg => rfl); (case hr => first | (go_simp; done) | (go_simp; rfl)); (case hp => exact (Reps.one (show Kd.M (Kd.int .u8) _ _ _ 1 [.int .u8 1] from rfl) (Reps.one (show Kd.M (Kd.int .u8) _ _ _ 2 [.int .u8 2] from rfl) (Reps.none _ _)))); intro v166 w11 ho12 hb hg_ hnew_; clear hg_ hnew_; (first | rw [← Ny165.out] at ho12 | (simp only [Int.reduceToNat] at ho12; rw [← Ny165.out] at ho12)); have n0_ := Aside0.mk (Kd.S_elder' (by (with_reducible repeat (first | apply Kd.S_alloc | apply Kd.S_drewN | apply Kd.S_drew)); exact (Kd.S_mono (Kd.S_far (p := ⟨gb164, 1, none⟩) (Kd.S_far (p := ⟨gb164, 0, none⟩) (Kd.S_types HO159.out BK164.out (by decide)) (fun _ hk => hk.2) (.slice Ao8 t157.length co8)) (fun _ hk => hk.2) (.slice Ao10 t160.length co10)) (fun _ h_ => h_.1))) (Kd.R_base ho12) hb); have n1_ := Aside0.mk (Kd.S_elder' (by (with_reducible repeat (first | apply Kd.S_alloc | apply Kd.S_drewN | apply Kd.S_drew)); exact (Kd.S_mono (Kd.S_far (p := ⟨gb164, 1, none⟩) (Kd.S_far (p := ⟨gb164, 0, none⟩) (Kd.S_types HO162.out BK164.out (by decide)) (fun _ hk => hk.2) (.slice Ao8 t157.length co8)) (fun _ hk => hk.2) (.slice Ao10 t160.length co10)) (fun _ h_ => h_.1))) (Kd.R_base ho12) hb); have n2_ := Aside0.mk (Kd.R_lower ho12 (below_size (by repeat (first | (with_reducible first | exact HB.out | apply below_alloc | apply pw_below_drewN | apply below_drew1 | refine below_set ?_ GE164.out) | exact HB.out)))); have n3_ := Aside0.mk (blk_below (g := gb164) (o := .cells #[.slice Ao8 t157.length co8, .slice Ao10 t160.length co10] 25 (0, 0)) (by (with_reducible repeat (first | refine blk_drewN ?_ _ | refine blk_drew ?_ | refine blk_alloc ?_ _)); refine blk_put (cs := #[.slice Ao8 t157.length co8, .slice none 0 0]) ?_ 1 _ rfl; (with_reducible repeat (first | refine blk_drewN ?_ _ | refine blk_drew ?_ | refine blk_alloc ?_ _)); refine blk_put (cs := #[.slice none 0 0, .slice none 0 0]) ?_ 0 _ rfl; (with_reducible repeat (first | refine blk_drewN ?_ _ | refine blk_drew ?_ | refine blk_alloc ?_ _)); exact BK164.out) hb); have n4_ := Aside0.mk (below_step (by repeat (first | (with_reducible first | exact HB.out | apply below_alloc | apply pw_below_drewN | apply below_drew1 | refine below_set ?_ GE164.out) | exact HB.out)) hb); clear HO159; clear HO162; clear BK164; clear HB; have HO159 := n0_; have HO162 := n1_; have HO167 := n2_; have BK164 := n3_; have HB := n4_; clear n0_ n1_ n2_ n3_ n4_; clear hb ho12; obtain ⟨Ao13, co13, eo13⟩ := Kd.R_slice HO167.out; subst eo13) | ((with_reducible refine gate_callee (f := 14) rfl ?_); refine goesL_ (some 14) rfl rfl Try.func14 (by kernel_rfl) rfl #[.agg #[.slice Ao8 t157.length co8, .slice Ao10 t160.length co10], .int .i64 1, .slice Ao13 y165.length co13] rfl (by (try simp only [List.map_toArray, List.map_cons, List.map_nil]); first | done | rfl | (simp only [List.length_drop, List.length_take]; rfl)) ?_; (with_reducible refine (device_Write.calls k _ _ t157 _ _ t160 1 _ _ y165 t168 t171 t174 _ ?side1 ?side2 ?side3 ?side4 ?side5 ?side6 A2.out).mono ?_); (case side1 => repeat (first | exact (Kd.S_reads' HO159.out).2.2 | (with_reducible refine Kd.C_alloc ?_ _) | (with_reducible refine Kd.C_drewN ?_ _) | (with_reducible refine Kd.C_drew ?_))); (case side2 => exact (Kd.S_reads' HO159.out).2.1); (case side3 => repeat (first | exact (Kd.S_reads' HO162.out).2.2 | (with_reducible refine Kd.C_alloc ?_ _) | (with_reducible refine Kd.C_drewN ?_ _) | (with_reducible refine Kd.C_drew ?_))); (case side4 => exact (Kd.S_reads' HO162.out).2.1); (case side5 => repeat (first | exact (Kd.R_reads' HO167.out).2.2 | (with_reducible refine Kd.C_alloc ?_ _) | (with_reducible refine Kd.C_drewN ?_ _) | (with_reducible refine Kd.C_drew ?_))); (case side6 => exact (Kd.R_reads' HO167.out).2.1); rintro e w14 ⟨v169, v172, rfl, ho0, ho1, hb⟩; refine ⟨_, rfl, ?_⟩; have n0_ := Aside0.mk (Kd.S_elder' (by (with_reducible repeat (first | apply Kd.S_alloc | apply Kd.S_drewN | apply Kd.S_drew)); exact HO159.out) (Kd.S_base ho0) hb); have n1_ := Aside0.mk (Kd.S_elder' (by (with_reducible repeat (first | apply Kd.S_alloc | apply Kd.S_drewN | apply Kd.S_drew)); exact HO162.out) (Kd.S_base ho1) hb); have n2_ := Aside0.mk (Kd.R_below (by (with_reducible repeat (first | apply Kd.R_alloc | apply Kd.R_drewN | apply Kd.R_drew)); exact HO167.out) hb); have n3_ := Aside0.mk (Kd.S_lower (Kd.S_new' (Kd.S_new' ho0 (Kd.S_lt (by (with_reducible repeat (first | apply Kd.S_alloc | apply Kd.S_drewN | apply Kd.S_drew)); exact HO159.out))) (Kd.R_lt (by (with_reducible repeat (first | apply Kd.R_alloc | apply Kd.R_drewN | apply Kd.R_drew)); exact HO167.out))) (below_size (by repeat (first | (with_reducible first | exact HB.out | apply below_alloc | apply pw_below_drewN | apply below_drew1 | refine below_set ?_ GE164.out) | exact HB.out)))); have n4_ := Aside0.mk (Kd.S_lower (Kd.S_new' (Kd.S_new' ho1 (Kd.S_lt (by (with_reducible repeat (first | apply Kd.S_alloc | apply Kd.S_drewN | apply Kd.S_drew)); exact HO162.out))) (Kd.R_lt (by (with_reducible repeat (first | apply Kd.R_alloc | apply Kd.R_drewN | apply Kd.R_drew)); exact HO167.out))) (below_size (by repeat (first | (with_reducible first | exact HB.out | apply below_alloc | apply pw_below_drewN | apply below_drew1 | refine below_set ?_ GE164.out) | exact HB.out)))); have n5_ := Aside0.mk (blk_below (g := gb164) (o := .cells #[.slice Ao8 t157.length co8, .slice Ao10 t160.length co10] 25 (0, 0)) (by (with_reducible repeat (first | refine blk_drewN ?_ _ | refine blk_drew ?_ | refine blk_alloc ?_ _)); exact BK164.out) hb); have n6_ := Aside0.mk (below_step (by repeat (first | (with_reducible first | exact HB.out | apply below_alloc | apply pw_below_drewN | apply below_drew1 | refine below_set ?_ GE164.out) | exact HB.out)) hb); clear HO159; clear HO162; clear HO167; clear BK164; clear HB; have HO159 := n0_; have HO162 := n1_; have HO167 := n2_; have HO170 := n3_; have HO173 := n4_; have BK164 := n5_; have HB := n6_; clear n0_ n1_ n2_ n3_ n4_ n5_ n6_; (try clear hb); (try clear hb2); (try clear hk); (try clear hi); (try clear ho0); (try clear ho1); obtain ⟨Ao15, co15, eo15⟩ := Kd.S_slice HO170.out; subst eo15; have hcz16_0 : w14.cell? ⟨gb164, 0, none⟩ = some (.slice Ao8 t157.length co8) := (blk_cell BK164.out 0).trans rfl; have hcz16_1 : w14.cell? ⟨gb164, 1, none⟩ = some (.slice Ao10 t160.length co10) := (blk_cell BK164.out 1).trans rfl; have hfz16_0 := blk_frozen BK164.out 0; have hfz16_1 := blk_frozen BK164.out 1; obtain ⟨Ao17, co17, eo17⟩ := Kd.S_slice HO173.out; subst eo17) | ((with_reducible refine gate_dst (N := 19) rfl ?_); (try (refine gate_guard (by rfl) ?_; dsimp only)); refine Kd.R_lit (Kd.int .i64) _ 3 ?hg (N := 19) ?hd (xs := ([1] : List Int)) (inner := [.int .i64 1]) (ok := fun _ => True) (okp := fun _ => True) ?hr ?hp (fun _ hk => hk) trivial (Below.refl _ _) (Nat.le_refl _) (by simp) ?_; (case hd => rfl); (case hg => rfl); (case hr => first | (go_simp; done) | (go_simp; rfl)); (case hp => exact (Reps.one (show Kd.M (Kd.int .i64) _ _ _ 1 [.int .i64 1] from rfl) (Reps.none _ _))); intro v176 w18 ho19 hb hg_ hnew_; clear hg_ hnew_; (first | rw [← Ny175.out] at ho19 | (simp only [Int.reduceToNat] at ho19; rw [← Ny175.out] at ho19)); have n0_ := Aside0.mk (Kd.S_below (by (with_reducible repeat (first | apply Kd.S_alloc | apply Kd.S_drewN | apply Kd.S_drew)); exact (Kd.S_mono (Kd.S_far (p := ⟨gb164, 1, none⟩) (Kd.S_far (p := ⟨gb164, 0, none⟩) (Kd.S_types HO159.out BK164.out (by decide)) (fun _ hk => hk.2) (.slice Ao15 t168.length co15)) (fun _ hk => hk.2) (.slice Ao17 t171.length co17)) (fun _ h_ => h_.1))) hb); have n1_ := Aside0.mk (Kd.S_below (by (with_reducible repeat (first | apply Kd.S_alloc | apply Kd.S_drewN | apply Kd.S_drew)); exact (Kd.S_mono (Kd.S_far (p := ⟨gb164, 1, none⟩) (Kd.S_far (p := ⟨gb164, 0, none⟩) (Kd.S_types HO162.out BK164.out (by decide)) (fun _ hk => hk.2) (.slice Ao15 t168.length co15)) (fun _ hk => hk.2) (.slice Ao17 t171.length co17)) (fun _ h_ => h_.1))) hb); have n2_ := Aside0.mk (Kd.R_below (by (with_reducible repeat (first | apply Kd.R_alloc | apply Kd.R_drewN | apply Kd.R_drew)); exact (Kd.R_mono (Kd.R_far (p := ⟨gb164, 1, none⟩) (Kd.R_far (p := ⟨gb164, 0, none⟩) (Kd.R_types HO167.out BK164.out (by decide)) (fun _ hk => hk.2) (.slice Ao15 t168.length co15)) (fun _ hk => hk.2) (.slice Ao17 t171.length co17)) (fun _ h_ => h_.1))) hb); have n3_ := Aside0.mk (Kd.S_below (by (with_reducible repeat (first | apply Kd.S_alloc | apply Kd.S_drewN | apply Kd.S_drew)); exact (Kd.S_mono (Kd.S_far (p := ⟨gb164, 1, none⟩) (Kd.S_far (p := ⟨gb164, 0, none⟩) (Kd.S_types HO170.out BK164.out (by decide)) (fun _ hk => hk.2) (.slice Ao15 t168.length co15)) (fun _ hk => hk.2) (.slice Ao17 t171.length co17)) (fun _ h_ => h_.1))) hb); have n4_ := Aside0.mk (Kd.S_below (by (with_reducible repeat (first | apply Kd.S_alloc | apply Kd.S_drewN | apply Kd.S_drew)); exact (Kd.S_mono (Kd.S_far (p := ⟨gb164, 1, none⟩) (Kd.S_far (p := ⟨gb164, 0, none⟩) (Kd.S_types HO173.out BK164.out (by decide)) (fun _ hk => hk.2) (.slice Ao15 t168.length co15)) (fun _ hk => hk.2) (.slice Ao17 t171.length co17)) (fun _ h_ => h_.1))) hb); have n5_ := Aside0.mk (Kd.R_lower ho19 (below_size (by repeat (first | (with_reducible first | exact HB.out | apply below_alloc | apply pw_below_drewN | apply below_drew1 | refine below_set ?_ GE164.out) | exact HB.out)))); have n6_ := Aside0.mk (blk_below (g := gb164) (o := .cells #[.slice Ao15 t168.length co15, .slice Ao17 t171.length co17] 25 (0, 0)) (by (with_reducible repeat (first | refine blk_drewN ?_ _ | refine blk_drew ?_ | refine blk_alloc ?_ _)); refine blk_put (cs := #[.slice Ao15 t168.length co15, .slice Ao10 t160.length co10]) ?_ 1 _ rfl; (with_reducible repeat (first | refine blk_drewN ?_ _ | refine blk_drew ?_ | refine blk_alloc ?_ _)); refine blk_put (cs := #[.slice Ao8 t157.length co8, .slice Ao10 t160.length co10]) ?_ 0 _ rfl; (with_reducible repeat (first | refine blk_drewN ?_ _ | refine blk_drew ?_ | refine blk_alloc ?_ _)); exact BK164.out) hb); have n7_ := Aside0.mk (below_step (by repeat (first | (with_reducible first | exact HB.out | apply below_alloc | apply pw_below_drewN | apply below_drew1 | refine below_set ?_ GE164.out) | exact HB.out)) hb); clear HO159; clear HO162; clear HO167; clear HO170; clear HO173; clear BK164; clear HB; have HO159 := n0_; have HO162 := n1_; have HO167 := n2_; have HO170 := n3_; have HO173 := n4_; have HO177 := n5_; have BK164 := n6_; have HB := n7_; clear n0_ n1_ n2_ n3_ n4_ n5_ n6_ n7_; clear hb ho19; obtain ⟨Ao20, co20, eo20⟩ := Kd.R_slice HO177.out; subst eo20) | ((with_reducible refine gate_callee (f := 17) rfl ?_); refine goesL_ (some 20) rfl rfl Try.func17 (by kernel_rfl) rfl #[.agg #[.slice Ao15 t168.length co15, .slice Ao17 t171.length co17], .slice Ao20 y175.length co20] rfl (by (try simp only [List.map_toArray, List.map_cons, List.map_nil]); first | done | rfl | (simp only [List.length_drop, List.length_take]; rfl)) ?_; (with_reducible refine (device_Crash.calls k _ _ t168 _ _ t171 _ _ y175 t178 t181 t184 _ ?side1 ?side2 ?side3 ?side4 ?side5 ?side6 A3.out).mono ?_); (case side1 => repeat (first | exact (Kd.S_reads' HO170.out).2.2 | (with_reducible refine Kd.C_alloc ?_ _) | (with_reducible refine Kd.C_drewN ?_ _) | (with_reducible refine Kd.C_drew ?_))); (case side2 => exact (Kd.S_reads' HO170.out).2.1); (case side3 => repeat (first | exact (Kd.S_reads' HO173.out).2.2 | (with_reducible refine Kd.C_alloc ?_ _) | (with_reducible refine Kd.C_drewN ?_ _) | (with_reducible refine Kd.C_drew ?_))); (case side4 => exact (Kd.S_reads' HO173.out).2.1); (case side5 => repeat (first | exact (Kd.R_reads' HO177.out).2.2 | (with_reducible refine Kd.C_alloc ?_ _) | (with_reducible refine Kd.C_drewN ?_ _) | (with_reducible refine Kd.C_drew ?_))); (case side6 => exact (Kd.R_reads' HO177.out).2.1); rintro e w21 ⟨v179, v182, rfl, ho0, ho1, hb⟩; refine ⟨_, rfl, ?_⟩; have n0_ := Aside0.mk (Kd.S_elder' (by (with_reducible repeat (first | apply Kd.S_alloc | apply Kd.S_drewN | apply Kd.S_drew)); exact HO159.out) (Kd.S_base ho0) hb); have n1_ := Aside0.mk (Kd.S_elder' (by (with_reducible repeat (first | apply Kd.S_alloc | apply Kd.S_drewN | apply Kd.S_drew)); exact HO162.out) (Kd.S_base ho1) hb); have n2_ := Aside0.mk (Kd.R_below (by (with_reducible repeat (first | apply Kd.R_alloc | apply Kd.R_drewN | apply Kd.R_drew)); exact HO167.out) hb); have n3_ := Aside0.mk (Kd.S_elder' (by (with_reducible repeat (first | apply Kd.S_alloc | apply Kd.S_drewN | apply Kd.S_drew)); exact HO170.out) (Kd.S_base ho0) hb); have n4_ := Aside0.mk (Kd.S_elder' (by (with_reducible repeat (first | apply Kd.S_alloc | apply Kd.S_drewN | apply Kd.S_drew)); exact HO173.out) (Kd.S_base ho1) hb); have n5_ := Aside0.mk (Kd.R_below (by (with_reducible repeat (first | apply Kd.R_alloc | apply Kd.R_drewN | apply Kd.R_drew)); exact HO177.out) hb); have n6_ := Aside0.mk (Kd.S_lower (Kd.S_new' (Kd.S_new' (Kd.S_new' ho0 (Kd.S_lt (by (with_reducible repeat (first | apply Kd.S_alloc | apply Kd.S_drewN | apply Kd.S_drew)); exact HO159.out))) (Kd.R_lt (by (with_reducible repeat (first | apply Kd.R_alloc | apply Kd.R_drewN | apply Kd.R_drew)); exact HO167.out))) (Kd.S_lt (by (with_reducible repeat (first | apply Kd.S_alloc | apply Kd.S_drewN | apply Kd.S_drew)); exact HO170.out))) (below_size (by repeat (first | (with_reducible first | exact HB.out | apply below_alloc | apply pw_below_drewN | apply below_drew1 | refine below_set ?_ GE164.out) | exact HB.out)))); have n7_ := Aside0.mk (Kd.S_lower (Kd.S_new' (Kd.S_new' (Kd.S_new' ho1 (Kd.S_lt (by (with_reducible repeat (first | apply Kd.S_alloc | apply Kd.S_drewN | apply Kd.S_drew)); exact HO162.out))) (Kd.R_lt (by (with_reducible repeat (first | apply Kd.R_alloc | apply Kd.R_drewN | apply Kd.R_drew)); exact HO167.out))) (Kd.S_lt (by (with_reducible repeat (first | apply Kd.S_alloc | apply Kd.S_drewN | apply Kd.S_drew)); exact HO173.out))) (below_size (by repeat (first | (with_reducible first | exact HB.out | apply below_alloc | apply pw_below_drewN | apply below_drew1 | refine below_set ?_ GE164.out) | exact HB.out)))); have n8_ := Aside0.mk (blk_below (g := gb164) (o := .cells #[.slice Ao15 t168.length co15, .slice Ao17 t171.length co17] 25 (0, 0)) (by (with_reducible repeat (first | refine blk_drewN ?_ _ | refine blk_drew ?_ | refine blk_alloc ?_ _)); exact BK164.out) hb); have n9_ := Aside0.mk (below_step (by repeat (first | (with_reducible first | exact HB.out | apply below_alloc | apply pw_below_drewN | apply below_drew1 | refine below_set ?_ GE164.out) | exact HB.out)) hb); clear HO159; clear HO162; clear HO167; clear HO170; clear HO173; clear HO177; clear BK164; clear HB; have HO159 := n0_; have HO162 := n1_; have HO167 := n2_; have HO170 := n3_; have HO173 := n4_; have HO177 := n5_; have HO180 := n6_; have HO183 := n7_; have BK164 := n8_; have HB := n9_; clear n0_ n1_ n2_ n3_ n4_ n5_ n6_ n7_ n8_ n9_; (try clear hb); (try clear hb2); (try clear hk); (try clear hi); (try clear ho0); (try clear ho1); obtain ⟨Ao22, co22, eo22⟩ := Kd.S_slice HO180.out; subst eo22; have hcz23_0 : w21.cell? ⟨gb164, 0, none⟩ = some (.slice Ao15 t168.length co15) := (blk_cell BK164.out 0).trans rfl; have hcz23_1 : w21.cell? ⟨gb164, 1, none⟩ = some (.slice Ao17 t171.length co17) := (blk_cell BK164.out 1).trans rfl; have hfz23_0 := blk_frozen BK164.out 0; have hfz23_1 := blk_frozen BK164.out 1; obtain ⟨Ao24, co24, eo24⟩ := Kd.S_slice HO183.out; subst eo24) | ((with_reducible refine gate_store (t := 25) (p := 1) rfl ?_); refine store_event (t := 25) (p := 1) (v := ?vo_w25) (w1 := ((w21.setCell ⟨gb164, 0, none⟩ (.slice Ao22 t178.length co22)).setCell ⟨gb164, 1, none⟩ (.slice Ao24 t181.length co24))) ?hg ?ho ?hn ?hr ?_; (case ho => rfl); (case hg => rfl); (case hn => rfl); (case hr => first | (go_simp; done) | (go_simp; rfl)); intro w25 hw; have n0_ : Aside0 (Kd.S (Kd.slice 5 (Kd.int .u8)) 26 w25 w.heap.size (fun k_ => some k_ ≠ (.slice Ao13 y165.length co13 : Value).ownBlock ∧ some k_ ≠ (.slice Ao15 t168.length co15 : Value).ownBlock ∧ some k_ ≠ (.slice Ao22 t178.length co22 : Value).ownBlock) (.slice Ao8 t157.length co8) t157) := ⟨(by rw [hw]; exact (by (with_reducible repeat (first | apply Kd.S_alloc | apply Kd.S_drewN | apply Kd.S_drew)); exact Kd.S_mono (Kd.S_far (p := ⟨gb164, 1, none⟩) (Kd.S_far (p := ⟨gb164, 0, none⟩) (Kd.S_types HO159.out BK164.out (by decide)) (fun _ hk => hk.2) (.slice Ao22 t178.length co22)) (fun _ hk => hk.2) (.slice Ao24 t181.length co24)) (fun _ hk => ⟨hk.1.1.1.2, ⟨hk.1.1.2, hk.1.2⟩⟩)))⟩; have n1_ : Aside0 (Kd.S k42 42 w25 w.heap.size (fun k_ => some k_ ≠ (.slice Ao13 y165.length co13 : Value).ownBlock ∧ some k_ ≠ (.slice Ao17 t171.length co17 : Value).ownBlock ∧ some k_ ≠ (.slice Ao24 t181.length co24 : Value).ownBlock) (.slice Ao10 t160.length co10) t160) := ⟨(by rw [hw]; exact (by (with_reducible repeat (first | apply Kd.S_alloc | apply Kd.S_drewN | apply Kd.S_drew)); exact Kd.S_mono (Kd.S_far (p := ⟨gb164, 1, none⟩) (Kd.S_far (p := ⟨gb164, 0, none⟩) (Kd.S_types HO162.out BK164.out (by decide)) (fun _ hk => hk.2) (.slice Ao22 t178.length co22)) (fun _ hk => hk.2) (.slice Ao24 t181.length co24)) (fun _ hk => ⟨hk.1.1.1.2, ⟨hk.1.1.2, hk.1.2⟩⟩)))⟩; have n2_ : Aside0 (Kd.R (Kd.int .u8) 5 w25 w.heap.size (fun _ => True) (.slice Ao13 y165.length co13) y165) := ⟨(by rw [hw]; exact (by (with_reducible repeat (first | apply Kd.R_alloc | apply Kd.R_drewN | apply Kd.R_drew)); exact Kd.R_mono (Kd.R_far (p := ⟨gb164, 1, none⟩) (Kd.R_far (p := ⟨gb164, 0, none⟩) (Kd.R_types HO167.out BK164.out (by decide)) (fun _ hk => hk.2) (.slice Ao22 t178.length co22)) (fun _ hk => hk.2) (.slice Ao24 t181.length co24)) (fun _ hk => trivial)))⟩; have n3_ : Aside0 (Kd.S (Kd.slice 5 (Kd.int .u8)) 26 w25 w.heap.size (fun k_ => some k_ ≠ (.slice Ao8 t157.length co8 : Value).ownBlock ∧ some k_ ≠ (.slice Ao13 y165.length co13 : Value).ownBlock ∧ some k_ ≠ (.slice Ao22 t178.length co22 : Value).ownBlock) (.slice Ao15 t168.length co15) t168) := ⟨(by rw [hw]; exact (by (with_reducible repeat (first | apply Kd.S_alloc | apply Kd.S_drewN | apply Kd.S_drew)); exact Kd.S_mono (Kd.S_far (p := ⟨gb164, 1, none⟩) (Kd.S_far (p := ⟨gb164, 0, none⟩) (Kd.S_types HO170.out BK164.out (by decide)) (fun _ hk => hk.2) (.slice Ao22 t178.length co22)) (fun _ hk => hk.2) (.slice Ao24 t181.length co24)) (fun _ hk => ⟨hk.1.1.1.2, ⟨hk.1.1.2, hk.1.2⟩⟩)))⟩; have n4_ : Aside0 (Kd.S k42 42 w25 w.heap.size (fun k_ => some k_ ≠ (.slice Ao10 t160.length co10 : Value).ownBlock ∧ some k_ ≠ (.slice Ao13 y165.length co13 : Value).ownBlock ∧ some k_ ≠ (.slice Ao24 t181.length co24 : Value).ownBlock) (.slice Ao17 t171.length co17) t171) := ⟨(by rw [hw]; exact (by (with_reducible repeat (first | apply Kd.S_alloc | apply Kd.S_drewN | apply Kd.S_drew)); exact Kd.S_mono (Kd.S_far (p := ⟨gb164, 1, none⟩) (Kd.S_far (p := ⟨gb164, 0, none⟩) (Kd.S_types HO173.out BK164.out (by decide)) (fun _ hk => hk.2) (.slice Ao22 t178.length co22)) (fun _ hk => hk.2) (.slice Ao24 t181.length co24)) (fun _ hk => ⟨hk.1.1.1.2, ⟨hk.1.1.2, hk.1.2⟩⟩)))⟩; have n5_ : Aside0 (Kd.R (Kd.int .i64) 3 w25 w.heap.size (fun _ => True) (.slice Ao20 y175.length co20) y175) := ⟨(by rw [hw]; exact (by (with_reducible repeat (first | apply Kd.R_alloc | apply Kd.R_drewN | apply Kd.R_drew)); exact Kd.R_mono (Kd.R_far (p := ⟨gb164, 1, none⟩) (Kd.R_far (p := ⟨gb164, 0, none⟩) (Kd.R_types HO177.out BK164.out (by decide)) (fun _ hk => hk.2) (.slice Ao22 t178.length co22)) (fun _ hk => hk.2) (.slice Ao24 t181.length co24)) (fun _ hk => trivial)))⟩; have n6_ : Aside0 (Kd.S (Kd.slice 5 (Kd.int .u8)) 26 w25 w.heap.size (fun k_ => some k_ ≠ (.slice Ao8 t157.length co8 : Value).ownBlock ∧ some k_ ≠ (.slice Ao13 y165.length co13 : Value).ownBlock ∧ some k_ ≠ (.slice Ao15 t168.length co15 : Value).ownBlock) (.slice Ao22 t178.length co22) t178) := ⟨(by rw [hw]; exact (by (with_reducible repeat (first | apply Kd.S_alloc | apply Kd.S_drewN | apply Kd.S_drew)); exact Kd.S_mono (Kd.S_far (p := ⟨gb164, 1, none⟩) (Kd.S_far (p := ⟨gb164, 0, none⟩) (Kd.S_types HO180.out BK164.out (by decide)) (fun _ hk => hk.2) (.slice Ao22 t178.length co22)) (fun _ hk => hk.2) (.slice Ao24 t181.length co24)) (fun _ hk => ⟨hk.1.1.1.2, ⟨hk.1.1.2, hk.1.2⟩⟩)))⟩; have n7_ : Aside0 (Kd.S k42 42 w25 w.heap.size (fun k_ => some k_ ≠ (.slice Ao10 t160.length co10 : Value).ownBlock ∧ some k_ ≠ (.slice Ao13 y165.length co13 : Value).ownBlock ∧ some k_ ≠ (.slice Ao17 t171.length co17 : Value).ownBlock) (.slice Ao24 t181.length co24) t181) := ⟨(by rw [hw]; exact (by (with_reducible repeat (first | apply Kd.S_alloc | apply Kd.S_drewN | apply Kd.S_drew)); exact Kd.S_mono (Kd.S_far (p := ⟨gb164, 1, none⟩) (Kd.S_far (p := ⟨gb164, 0, none⟩) (Kd.S_types HO183.out BK164.out (by decide)) (fun _ hk => hk.2) (.slice Ao22 t178.length co22)) (fun _ hk => hk.2) (.slice Ao24 t181.length co24)) (fun _ hk => ⟨hk.1.1.1.2, ⟨hk.1.1.2, hk.1.2⟩⟩)))⟩; have n8_ : Aside0 (w25.heap[gb164]? = some (.cells #[.slice Ao22 t178.length co22, .slice Ao24 t181.length co24] 25 (0, 0))) := ⟨(by rw [hw]; exact (by (with_reducible repeat (first | refine blk_drewN ?_ _ | refine blk_drew ?_ | refine blk_alloc ?_ _)); refine blk_put (cs := #[.slice Ao22 t178.length co22, .slice Ao17 t171.length co17]) ?_ 1 _ rfl; (with_reducible repeat (first | refine blk_drewN ?_ _ | refine blk_drew ?_ | refine blk_alloc ?_ _)); refine blk_put (cs := #[.slice Ao15 t168.length co15, .slice Ao17 t171.length co17]) ?_ 0 _ rfl; (with_reducible repeat (first | refine blk_drewN ?_ _ | refine blk_drew ?_ | refine blk_alloc ?_ _)); exact BK164.out))⟩; have n9_ : Aside0 (Below w.heap.size w w25) := ⟨(by rw [hw]; exact (by repeat (first | (with_reducible first | exact HB.out | apply below_alloc | apply pw_below_drewN | apply below_drew1 | refine below_set ?_ GE164.out) | exact HB.out)))⟩; clear hw; clear HO159; clear HO162; clear HO167; clear HO170; clear HO173; clear HO177; clear HO180; clear HO183; clear BK164; clear HB; have HO159 := n0_; have HO162 := n1_; have HO167 := n2_; have HO170 := n3_; have HO173 := n4_; have HO177 := n5_; have HO180 := n6_; have HO183 := n7_; have BK164 := n8_; have HB := n9_; clear n0_ n1_ n2_ n3_ n4_ n5_ n6_ n7_ n8_ n9_; have hcz26_0 : w25.cell? ⟨gb164, 0, none⟩ = some (.slice Ao22 t178.length co22) := (blk_cell BK164.out 0).trans rfl; have hcz26_1 : w25.cell? ⟨gb164, 1, none⟩ = some (.slice Ao24 t181.length co24) := (blk_cell BK164.out 1).trans rfl; have hfz26_0 := blk_frozen BK164.out 0; have hfz26_1 := blk_frozen BK164.out 1) | ((with_reducible refine gate_callee (f := 16) rfl ?_); refine goesL_ (some 25) rfl rfl Try.func16 (by kernel_rfl) rfl #[.agg #[.slice Ao22 t178.length co22, .slice Ao24 t181.length co24], .int .i64 1] rfl (by (try simp only [List.map_toArray, List.map_cons, List.map_nil]); first | done | rfl | (simp only [List.length_drop, List.length_take]; rfl)) ?_; (with_reducible refine (device_Read.calls k (fun k_ => ((((((some k_ ≠ (.slice Ao8 t157.length co8 : Value).ownBlock ∧ (some k_ ≠ (.slice Ao13 y165.length co13 : Value).ownBlock ∧ some k_ ≠ (.slice Ao15 t168.length co15 : Value).ownBlock)) ∧ some k_ ≠ (.slice Ao10 t160.length co10 : Value).ownBlock) ∧ some k_ ≠ (.slice Ao17 t171.length co17 : Value).ownBlock) ∧ some k_ ≠ (.slice Ao20 y175.length co20 : Value).ownBlock) ∧ some k_ ≠ (.slice Ao24 t181.length co24 : Value).ownBlock) ∧ k_ ≠ gb164)) _ _ t178 (fun k_ => ((((((some k_ ≠ (.slice Ao10 t160.length co10 : Value).ownBlock ∧ (some k_ ≠ (.slice Ao13 y165.length co13 : Value).ownBlock ∧ some k_ ≠ (.slice Ao17 t171.length co17 : Value).ownBlock)) ∧ some k_ ≠ (.slice Ao8 t157.length co8 : Value).ownBlock) ∧ some k_ ≠ (.slice Ao15 t168.length co15 : Value).ownBlock) ∧ some k_ ≠ (.slice Ao20 y175.length co20 : Value).ownBlock) ∧ some k_ ≠ (.slice Ao22 t178.length co22 : Value).ownBlock) ∧ k_ ≠ gb164)) _ _ t181 1 t185 t188 _ ?side1 ?side2 A4.out).mono ?_); (case side1 => exact Kd.S_V (Kd.S_types (Kd.S_apart' (Kd.S_apart' (Kd.S_apart' (Kd.S_apart' (HO180.out) (Kd.S_typed HO162.out) (by decide)) (Kd.S_typed HO173.out) (by decide)) (Kd.R_typed HO177.out) (by decide)) (Kd.S_typed HO183.out) (by decide)) BK164.out (by decide))); (case side2 => exact Kd.S_V (Kd.S_types (Kd.S_apart' (Kd.S_apart' (Kd.S_apart' (Kd.S_apart' (HO183.out) (Kd.S_typed HO159.out) (by decide)) (Kd.S_typed HO170.out) (by decide)) (Kd.R_typed HO177.out) (by decide)) (Kd.S_typed HO180.out) (by decide)) BK164.out (by decide))); rintro e w27 ⟨v186, rfl, ho0, hb⟩; refine ⟨_, rfl, ?_⟩; have n0_ := Aside0.mk (Kd.S_elder' (by (with_reducible repeat (first | apply Kd.S_alloc | apply Kd.S_drewN | apply Kd.S_drew)); exact HO159.out) (Kd.R_base ho0) hb); have n1_ := Aside0.mk (Kd.S_elder' (by (with_reducible repeat (first | apply Kd.S_alloc | apply Kd.S_drewN | apply Kd.S_drew)); exact HO162.out) (Kd.R_base ho0) hb); have n2_ := Aside0.mk (Kd.R_elder' (by (with_reducible repeat (first | apply Kd.R_alloc | apply Kd.R_drewN | apply Kd.R_drew)); exact HO167.out) (Kd.R_base ho0) hb); have n3_ := Aside0.mk (Kd.S_elder' (by (with_reducible repeat (first | apply Kd.S_alloc | apply Kd.S_drewN | apply Kd.S_drew)); exact HO170.out) (Kd.R_base ho0) hb); have n4_ := Aside0.mk (Kd.S_elder' (by (with_reducible repeat (first | apply Kd.S_alloc | apply Kd.S_drewN | apply Kd.S_drew)); exact HO173.out) (Kd.R_base ho0) hb); have n5_ := Aside0.mk (Kd.R_below (by (with_reducible repeat (first | apply Kd.R_alloc | apply Kd.R_drewN | apply Kd.R_drew)); exact HO177.out) hb); have n6_ := Aside0.mk (Kd.S_elder' (by (with_reducible repeat (first | apply Kd.S_alloc | apply Kd.S_drewN | apply Kd.S_drew)); exact HO180.out) (Kd.R_base ho0) hb); have n7_ := Aside0.mk (Kd.S_elder' (by (with_reducible repeat (first | apply Kd.S_alloc | apply Kd.S_drewN | apply Kd.S_drew)); exact HO183.out) (Kd.R_base ho0) hb); have n8_ := Aside0.mk (Kd.R_lower (Kd.R_new' (Kd.R_mono (ok' := fun k_ => True) ho0 (fun _ hk_ => trivial)) (Kd.R_lt (by (with_reducible repeat (first | apply Kd.R_alloc | apply Kd.R_drewN | apply Kd.R_drew)); exact HO167.out))) (below_size (by repeat (first | (with_reducible first | exact HB.out | apply below_alloc | apply pw_below_drewN | apply below_drew1 | refine below_set ?_ GE164.out) | exact HB.out)))); have n9_ := Aside0.mk (blk_below (g := gb164) (o := .cells #[.slice Ao22 t178.length co22, .slice Ao24 t181.length co24] 25 (0, 0)) (by (with_reducible repeat (first | refine blk_drewN ?_ _ | refine blk_drew ?_ | refine blk_alloc ?_ _)); exact BK164.out) hb); have n10_ := Aside0.mk (below_step (by repeat (first | (with_reducible first | exact HB.out | apply below_alloc | apply pw_below_drewN | apply below_drew1 | refine below_set ?_ GE164.out) | exact HB.out)) hb); clear HO159; clear HO162; clear HO167; clear HO170; clear HO173; clear HO177; clear HO180; clear HO183; clear BK164; clear HB; have HO159 := n0_; have HO162 := n1_; have HO167 := n2_; have HO170 := n3_; have HO173 := n4_; have HO177 := n5_; have HO180 := n6_; have HO183 := n7_; have HO187 := n8_; have BK164 := n9_; have HB := n10_; clear n0_ n1_ n2_ n3_ n4_ n5_ n6_ n7_ n8_ n9_ n10_; (try clear hb); (try clear hb2); (try clear hk); (try clear hi); (try clear ho0)))
  (try simp only [Act.put, List.setIfInBounds_toArray, List.set_cons_zero, List.set_cons_succ])
  have H := HC5.out
  clear HC5
  by_cases c28 : t163 = 0
  · rw [if_pos c28] at H
    have c28b0 : (t163 == 0) = true := beq_iff_eq.mpr c28
    have c28b1 : (t163 != 0) = false := bne_eq_false_iff_eq.mpr c28
    clear c28
    (first | rw [c28b0] | (simp only [i64_w, i32_w]; rw [c28b0]) | skip)
    by_cases c29 : t174 = 0
    · rw [if_pos c29] at H
      have c29b0 : (t174 == 0) = true := beq_iff_eq.mpr c29
      have c29b1 : (t174 != 0) = false := bne_eq_false_iff_eq.mpr c29
      clear c29
      by_cases c30 : t184 = 0
      · rw [if_pos c30] at H
        have c30b0 : (t184 == 0) = true := beq_iff_eq.mpr c30
        have c30b1 : (t184 != 0) = false := bne_eq_false_iff_eq.mpr c30
        clear c30
        by_cases c31 : t188 = 0
        · rw [if_pos c31] at H
          have c31b0 : (t188 == 0) = true := beq_iff_eq.mpr c31
          have c31b1 : (t188 != 0) = false := bne_eq_false_iff_eq.mpr c31
          clear c31
          by_cases c32 : (t185.length : Int) = 64
          · rw [if_pos c32] at H
            have c32b0 : ((t185.length : Int) == 64) = true := beq_iff_eq.mpr c32
            have c32b1 : ((t185.length : Int) != 64) = false := bne_eq_false_iff_eq.mpr c32
            clear c32
            by_cases c33 : 0 < (t185.length : Int)
            · rw [if_pos c33] at H
              have c33b0 : decide (0 < (t185.length : Int)) = true := decide_eq_true c33
              have c33b1 : decide (0 < t185.length) = true := decide_eq_true (by omega)
              clear c33
              by_cases c34 : (rd t185 0) = 1
              · rw [if_pos c34] at H
                have c34b0 : ((rd t185 0) == 1) = true := beq_iff_eq.mpr c34
                have c34b1 : ((rd t185 0) != 1) = false := bne_eq_false_iff_eq.mpr c34
                clear c34
                by_cases c35 : 1 < (t185.length : Int)
                · rw [if_pos c35] at H
                  have c35b0 : decide (1 < (t185.length : Int)) = true := decide_eq_true c35
                  have c35b1 : decide (1 < t185.length) = true := decide_eq_true (by omega)
                  clear c35
                  obtain rfl := Option.some.inj H
                  obtain ⟨Ao36, co36, eo36⟩ := Kd.R_slice HO187.out
                  subst eo36
                  have p189 : 0 ≤ (0 : Int) := (by omega)
                  have q189 : 0 < (t185.length : Int) := of_decide_eq_true (by first | (with_reducible assumption) | assumption)
                  obtain ⟨ad189, e189, hx189_0⟩ := Kd.at_int (Kd.R_reads' HO187.out).2.2 0 p189 q189
                  cases e189
                  have qi189 : (0 < t185.length) = True := eq_true (by omega)
                  (try rw [show ((0 : Int)).toNat = 0 from rfl] at hx189_0)
                  (try rw [Addr.add_zero'] at hx189_0)
                  replace p189 := eq_true p189
                  replace q189 := eq_true q189
                  have p190 : 0 ≤ (1 : Int) := (by omega)
                  have q190 : 1 < (t185.length : Int) := of_decide_eq_true (by first | (with_reducible assumption) | assumption)
                  obtain ⟨ad190, e190, hx190_0⟩ := Kd.at_int (Kd.R_reads' HO187.out).2.2 1 p190 q190
                  obtain rfl : ad189 = ad190 := (by injection e190)
                  (try simp only [show (1 : Int).toNat = 1 from rfl, Nat.reduceMul, Nat.reduceEqDiff, Go.Addr.add, ↓reduceIte] at hx190_0)
                  have qi190 : (1 < t185.length) = True := eq_true (by omega)
                  (try rw [show ((1 : Int)).toNat = 1 from rfl] at hx190_0)
                  replace p190 := eq_true p190
                  replace q190 := eq_true q190
                  go_wp2
                  go_ret
                  exact ⟨by first | rfl | (simp [errW_none, errW_some] <;> rfl) | (simp [*, errW_none, errW_some] <;> rfl), by repeat (first | (with_reducible first | exact HB.out | apply below_alloc | apply pw_below_drewN | apply below_drew1 | refine below_set ?_ GE164.out) | exact HB.out)⟩
                · rw [if_neg c35] at H
                  exact absurd H (by simp)
              · rw [if_neg c34] at H
                have c34b0 : ((rd t185 0) == 1) = false := beq_eq_false_iff_ne.mpr c34
                have c34b1 : ((rd t185 0) != 1) = true := bne_iff_ne.mpr c34
                obtain rfl := Option.some.inj H
                obtain ⟨Ao37, co37, eo37⟩ := Kd.R_slice HO187.out
                subst eo37
                have p189 : 0 ≤ (0 : Int) := (by omega)
                have q189 : 0 < (t185.length : Int) := of_decide_eq_true (by first | (with_reducible assumption) | assumption)
                obtain ⟨ad189, e189, hx189_0⟩ := Kd.at_int (Kd.R_reads' HO187.out).2.2 0 p189 q189
                cases e189
                have qi189 : (0 < t185.length) = True := eq_true (by omega)
                (try rw [show ((0 : Int)).toNat = 0 from rfl] at hx189_0)
                (try rw [Addr.add_zero'] at hx189_0)
                replace p189 := eq_true p189
                replace q189 := eq_true q189
                go_wp2
                go_ret
                exact ⟨by first | rfl | (simp [errW_none, errW_some] <;> rfl) | (simp [*, errW_none, errW_some] <;> rfl), by repeat (first | (with_reducible first | exact HB.out | apply below_alloc | apply pw_below_drewN | apply below_drew1 | refine below_set ?_ GE164.out) | exact HB.out)⟩
            · rw [if_neg c33] at H
              exact absurd H (by simp)
          · rw [if_neg c32] at H
            have c32b0 : ((t185.length : Int) == 64) = false := beq_eq_false_iff_ne.mpr c32
            have c32b1 : ((t185.length : Int) != 64) = true := bne_iff_ne.mpr c32
            obtain rfl := Option.some.inj H
            obtain ⟨Ao38, co38, eo38⟩ := Kd.R_slice HO187.out
            subst eo38
            go_wp2
            go_ret
            exact ⟨by first | rfl | (simp [errW_none, errW_some] <;> rfl) | (simp [*, errW_none, errW_some] <;> rfl), by repeat (first | (with_reducible first | exact HB.out | apply below_alloc | apply pw_below_drewN | apply below_drew1 | refine below_set ?_ GE164.out) | exact HB.out)⟩
        · rw [if_neg c31] at H
          have c31b0 : (t188 == 0) = false := beq_eq_false_iff_ne.mpr c31
          have c31b1 : (t188 != 0) = true := bne_iff_ne.mpr c31
          obtain rfl := Option.some.inj H
          go_wp2
          go_ret
          exact ⟨by first | rfl | (simp [errW_none, errW_some] <;> rfl) | (simp [*, errW_none, errW_some] <;> rfl), by repeat (first | (with_reducible first | exact HB.out | apply below_alloc | apply pw_below_drewN | apply below_drew1 | refine below_set ?_ GE164.out) | exact HB.out)⟩
      · rw [if_neg c30] at H
        have c30b0 : (t184 == 0) = false := beq_eq_false_iff_ne.mpr c30
        have c30b1 : (t184 != 0) = true := bne_iff_ne.mpr c30
        obtain rfl := Option.some.inj H
        go_wp2
        go_ret
        exact ⟨by first | rfl | (simp [errW_none, errW_some] <;> rfl) | (simp [*, errW_none, errW_some] <;> rfl), by repeat (first | (with_reducible first | exact HB.out | apply below_alloc | apply pw_below_drewN | apply below_drew1 | refine below_set ?_ GE164.out) | exact HB.out)⟩
    · rw [if_neg c29] at H
      have c29b0 : (t174 == 0) = false := beq_eq_false_iff_ne.mpr c29
      have c29b1 : (t174 != 0) = true := bne_iff_ne.mpr c29
      obtain rfl := Option.some.inj H
      go_wp2
      go_ret
      exact ⟨by first | rfl | (simp [errW_none, errW_some] <;> rfl) | (simp [*, errW_none, errW_some] <;> rfl), by repeat (first | (with_reducible first | exact HB.out | apply below_alloc | apply pw_below_drewN | apply below_drew1 | refine below_set ?_ GE164.out) | exact HB.out)⟩
  · rw [if_neg c28] at H
    have c28b0 : (t163 == 0) = false := beq_eq_false_iff_ne.mpr c28
    have c28b1 : (t163 != 0) = true := bne_iff_ne.mpr c28
    (first | rw [c28b0] | (simp only [i64_w, i32_w]; rw [c28b0]) | skip)
    obtain rfl := Option.some.inj H
    go_wp2
    go_ret
    exact ⟨by first | rfl | (simp [errW_none, errW_some] <;> rfl) | (simp [*, errW_none, errW_some] <;> rfl), by repeat (first | (with_reducible first | exact HB.out | apply below_alloc | apply pw_below_drewN | apply below_drew1 | refine below_set ?_ GE164.out) | exact HB.out)⟩

/-! ### shapesearchref24_Same: function 9 -/
mutual
def shapesearchref24_Same.j0 : Nat → Bool → List (List Int) → List (S42) → List (List Int) → List (S42) → Option (Bool)
  | 0, _, _, _, _, _ => none
  | k + 1, x22, x192000, x192001, x193000, x193001 => if x22 = true then (some false) else (shapesearchref24_Same.l0 k 0 x192000 x192001 x193000 x193001)
def shapesearchref24_Same.l0 : Nat → Int → List (List Int) → List (S42) → List (List Int) → List (S42) → Option (Bool)
  | 0, _, _, _, _, _ => none
  | k + 1, x5, x192000, x192001, x193000, x193001 => if x5 < (x192000.length : Int) then (if 0 ≤ x5 then (if x5 < (x193000.length : Int) then (if (strOfNums (rd_L1 x192000 x5)).toList = (strOfNums (rd_L1 x193000 x5)).toList then (shapesearchref24_Same.l0 k (wrap64 (x5 + 1)) x192000 x192001 x193000 x193001) else (some false)) else (none)) else (none)) else (shapesearchref24_Same.l1 k 0 x192000 x192001 x193000 x193001)
def shapesearchref24_Same.l1 : Nat → Int → List (List Int) → List (S42) → List (List Int) → List (S42) → Option (Bool)
  | 0, _, _, _, _, _ => none
  | k + 1, x6, x192000, x192001, x193000, x193001 => if x6 < (x192001.length : Int) then (if 0 ≤ x6 then (if x6 < (x193001.length : Int) then (if ((rd_T42 x192001 x6).f0) = ((rd_T42 x193001 x6).f0) then (if (strOfNums ((rd_T42 x192001 x6).f1)).toList = (strOfNums ((rd_T42 x193001 x6).f1)).toList then (shapesearchref24_Same.l1 k (wrap64 (x6 + 1)) x192000 x192001 x193000 x193001) else (some false)) else (some false)) else (none)) else (none)) else (some true)
end
def shapesearchref24_Same.f (k : Nat) (l0_0 : List (List Int)) (l0_1 : List (S42)) (l1_0 : List (List Int)) (l1_1 : List (S42)) : Option (Bool) := if (l0_0.length : Int) = (l1_0.length : Int) then (shapesearchref24_Same.j0 k ((l0_1.length : Int) != (l1_1.length : Int)) l0_0 l0_1 l1_0 l1_1) else (shapesearchref24_Same.j0 k true l0_0 l0_1 l1_0 l1_1)
theorem shapesearchref24_Same.mono_l : ∀ k, (∀ y0 y1 y2 y3 y4, LeO (shapesearchref24_Same.j0 k y0 y1 y2 y3 y4) (shapesearchref24_Same.j0 (k + 1) y0 y1 y2 y3 y4)) ∧ (∀ y0 y1 y2 y3 y4, LeO (shapesearchref24_Same.l0 k y0 y1 y2 y3 y4) (shapesearchref24_Same.l0 (k + 1) y0 y1 y2 y3 y4)) ∧ (∀ y0 y1 y2 y3 y4, LeO (shapesearchref24_Same.l1 k y0 y1 y2 y3 y4) (shapesearchref24_Same.l1 (k + 1) y0 y1 y2 y3 y4))
  | 0 => ⟨fun _ _ _ _ _ r h => by simp [shapesearchref24_Same.j0] at h, fun _ _ _ _ _ r h => by simp [shapesearchref24_Same.l0] at h, fun _ _ _ _ _ r h => by simp [shapesearchref24_Same.l1] at h⟩
  | k + 1 => by
    obtain ⟨ih0, ih1, ih2⟩ := shapesearchref24_Same.mono_l k
    refine ⟨?_, ?_, ?_⟩
    · intro y0 y1 y2 y3 y4
      unfold shapesearchref24_Same.j0
      repeat' first
      | (with_reducible exact ih0 _ _ _ _ _)
      | (with_reducible exact ih1 _ _ _ _ _)
      | (with_reducible exact ih2 _ _ _ _ _)
      | (with_reducible exact LeO.refl _)
      | (with_reducible exact LeO.none _)
      | (with_reducible refine LeO.ite ?_ ?_)
      | (with_reducible refine LeO.bind ?_ (fun _ => ?_))
      | exact ih0 _ _ _ _ _
      | exact ih1 _ _ _ _ _
      | exact ih2 _ _ _ _ _
      | exact LeO.none _
      | refine LeO.ite ?_ ?_
      | refine LeO.bind ?_ (fun _ => ?_)
    · intro y0 y1 y2 y3 y4
      unfold shapesearchref24_Same.l0
      repeat' first
      | (with_reducible exact ih0 _ _ _ _ _)
      | (with_reducible exact ih1 _ _ _ _ _)
      | (with_reducible exact ih2 _ _ _ _ _)
      | (with_reducible exact LeO.refl _)
      | (with_reducible exact LeO.none _)
      | (with_reducible refine LeO.ite ?_ ?_)
      | (with_reducible refine LeO.bind ?_ (fun _ => ?_))
      | exact ih0 _ _ _ _ _
      | exact ih1 _ _ _ _ _
      | exact ih2 _ _ _ _ _
      | exact LeO.none _
      | refine LeO.ite ?_ ?_
      | refine LeO.bind ?_ (fun _ => ?_)
    · intro y0 y1 y2 y3 y4
      unfold shapesearchref24_Same.l1
      repeat' first
      | (with_reducible exact ih0 _ _ _ _ _)
      | (with_reducible exact ih1 _ _ _ _ _)
      | (with_reducible exact ih2 _ _ _ _ _)
      | (with_reducible exact LeO.refl _)
      | (with_reducible exact LeO.none _)
      | (with_reducible refine LeO.ite ?_ ?_)
      | (with_reducible refine LeO.bind ?_ (fun _ => ?_))
      | exact ih0 _ _ _ _ _
      | exact ih1 _ _ _ _ _
      | exact ih2 _ _ _ _ _
      | exact LeO.none _
      | refine LeO.ite ?_ ?_
      | refine LeO.bind ?_ (fun _ => ?_)
theorem shapesearchref24_Same.mono : ∀ a0 a1 a2 a3 k, LeO (shapesearchref24_Same.f k a0 a1 a2 a3) (shapesearchref24_Same.f (k + 1) a0 a1 a2 a3) := by
  intro a0 a1 a2 a3 k
  obtain ⟨ih0, ih1, ih2⟩ := shapesearchref24_Same.mono_l k
  unfold shapesearchref24_Same.f
  repeat' first
      | (with_reducible exact ih0 _ _ _ _ _)
      | (with_reducible exact ih1 _ _ _ _ _)
      | (with_reducible exact ih2 _ _ _ _ _)
      | (with_reducible exact LeO.refl _)
      | (with_reducible exact LeO.none _)
      | (with_reducible refine LeO.ite ?_ ?_)
      | (with_reducible refine LeO.bind ?_ (fun _ => ?_))
      | exact ih0 _ _ _ _ _
      | exact ih1 _ _ _ _ _
      | exact ih2 _ _ _ _ _
      | exact LeO.none _
      | refine LeO.ite ?_ ?_
      | refine LeO.bind ?_ (fun _ => ?_)
set_option maxHeartbeats 8000000 in
set_option maxRecDepth 100000 in
theorem shapesearchref24_Same.calls (k : Nat) (A0_0 : Option Addr) (c0_0 : Nat) (l0_0 : List (List Int)) (A0_1 : Option Addr) (c0_1 : Nat) (l0_1 : List (S42)) (A1_0 : Option Addr) (c1_0 : Nat) (l1_0 : List (List Int)) (A1_1 : Option Addr) (c1_1 : Nat) (l1_1 : List (S42)) (r : Bool) (w : World) (hr0_0 : Kd.C (Kd.slice 5 (Kd.int .u8)) w A0_0 l0_0.length l0_0) (hc0_0 : l0_0.length ≤ c0_0) (hr0_1 : Kd.C k42 w A0_1 l0_1.length l0_1) (hc0_1 : l0_1.length ≤ c0_1) (hr1_0 : Kd.C (Kd.slice 5 (Kd.int .u8)) w A1_0 l1_0.length l1_0) (hc1_0 : l1_0.length ≤ c1_0) (hr1_1 : Kd.C k42 w A1_1 l1_1.length l1_1) (hc1_1 : l1_1.length ≤ c1_1) (h : shapesearchref24_Same.f k l0_0 l0_1 l1_0 l1_1 = some r) :
    Calls Try.prog 9 #[.agg #[.slice A0_0 l0_0.length c0_0, .slice A0_1 l0_1.length c0_1], .agg #[.slice A1_0 l1_0.length c1_0, .slice A1_1 l1_1.length c1_1]] w fun e w' => e = .returned (.bool r) ∧ Below w.heap.size w w' := by
  have hu25 := Try.underlying25
  have HR0_0 := Aside0.mk hr0_0
  have HC0_0 := Aside0.mk hc0_0
  clear hr0_0 hc0_0
  have HR0_1 := Aside0.mk hr0_1
  have HC0_1 := Aside0.mk hc0_1
  clear hr0_1 hc0_1
  have HR1_0 := Aside0.mk hr1_0
  have HC1_0 := Aside0.mk hc1_0
  clear hr1_0 hc1_0
  have HR1_1 := Aside0.mk hr1_1
  have HC1_1 := Aside0.mk hc1_1
  clear hr1_1 hc1_1
  have HB := Aside0.mk (Below.refl w.heap.size w)
  have H : (if (l0_0.length : Int) = (l1_0.length : Int) then (shapesearchref24_Same.j0 k ((l0_1.length : Int) != (l1_1.length : Int)) l0_0 l0_1 l1_0 l1_1) else (shapesearchref24_Same.j0 k true l0_0 l0_1 l1_0 l1_1)) = some r := h
  clear h
  have HC3 := Aside0.mk H
  clear H
  go_enter Try.func9, Try.ntmps9
  go_upto_region 1 with (first | ((with_reducible refine gate_dst (N := 2) rfl ?_); (try (refine gate_guard (by rfl) ?_; dsimp only)); refine box_event ?hg (N := 2) ?hd (cs := #[.slice A0_0 l0_0.length c0_0, .slice A0_1 l0_1.length c0_1]) (t := 25) ?hr ?_; (case hd => rfl); (case hg => rfl); (case hr => first | (go_simp; done) | (go_simp; rfl)); intro gb191 hg w4 hbox hb; have n0_ := Aside0.mk (below_step (by repeat (first | (with_reducible first | exact HB.out | apply below_alloc | apply pw_below_drewN | apply below_drew1) | exact HB.out)) hb); have n1_ := Aside0.mk (hbox); have n2_ := Aside0.mk ((by rw [hg]; exact (below_size (by repeat (first | (with_reducible first | exact HB.out | apply below_alloc | apply pw_below_drewN | apply below_drew1) | exact HB.out))) : w.heap.size ≤ gb191)); have n3_ := Aside0.mk ((by rw [hg]; exact (below_size (by repeat (first | (with_reducible first | exact HB.out | apply below_alloc | apply pw_below_drewN | apply below_drew1) | exact HB.out))) : w.heap.size ≤ gb191)); clear HB; have HB := n0_; have BK191 := n1_; have GW191 := n2_; have GE191 := n3_; clear n0_ n1_ n2_ n3_; clear hb hbox hg) | ((with_reducible refine gate_dst (N := 3) rfl ?_); (try (refine gate_guard (by rfl) ?_; dsimp only)); refine box_event ?hg (N := 3) ?hd (cs := #[.slice A1_0 l1_0.length c1_0, .slice A1_1 l1_1.length c1_1]) (t := 25) ?hr ?_; (case hd => rfl); (case hg => rfl); (case hr => first | (go_simp; done) | (go_simp; rfl)); intro gb192 hg w5 hbox hb; have n0_ := Aside0.mk (blk_below (g := gb191) (o := .cells #[.slice A0_0 l0_0.length c0_0, .slice A0_1 l0_1.length c0_1] 25 (0, 0)) (by (with_reducible repeat (first | refine blk_drewN ?_ _ | refine blk_drew ?_ | refine blk_alloc ?_ _)); exact BK191.out) hb); have n1_ := Aside0.mk (below_step (by repeat (first | (with_reducible first | exact HB.out | apply below_alloc | apply pw_below_drewN | apply below_drew1 | refine below_set ?_ GE191.out) | exact HB.out)) hb); have n2_ := Aside0.mk (hbox); have n3_ := Aside0.mk ((by rw [hg]; exact (below_size (by repeat (first | (with_reducible first | exact HB.out | apply below_alloc | apply pw_below_drewN | apply below_drew1 | refine below_set ?_ GE191.out) | exact HB.out))) : w.heap.size ≤ gb192)); have n4_ := Aside0.mk ((by rw [hg]; exact (below_size (by repeat (first | (with_reducible first | exact HB.out | apply below_alloc | apply pw_below_drewN | apply below_drew1 | refine below_set ?_ GE191.out) | exact HB.out))) : w.heap.size ≤ gb192)); have n5_ := Aside0.mk ((by rw [hg]; exact Nat.ne_of_lt (blk_lt (g := gb191) (o := .cells #[.slice A0_0 l0_0.length c0_0, .slice A0_1 l0_1.length c0_1] 25 (0, 0)) (by (with_reducible repeat (first | refine blk_drewN ?_ _ | refine blk_drew ?_ | refine blk_alloc ?_ _)); exact BK191.out)) : gb191 ≠ gb192)); have n6_ := Aside0.mk ((by rw [hg]; exact Nat.ne_of_gt (blk_lt (g := gb191) (o := .cells #[.slice A0_0 l0_0.length c0_0, .slice A0_1 l0_1.length c0_1] 25 (0, 0)) (by (with_reducible repeat (first | refine blk_drewN ?_ _ | refine blk_drew ?_ | refine blk_alloc ?_ _)); exact BK191.out)) : gb192 ≠ gb191)); clear BK191; clear HB; have BK191 := n0_; have HB := n1_; have BK192 := n2_; have GW192 := n3_; have GE192 := n4_; have NB191_192 := n5_; have NB192_191 := n6_; clear n0_ n1_ n2_ n3_ n4_ n5_ n6_; clear hb hbox hg))
  repeat (go_quiet (first | ((with_reducible refine gate_dst (N := 2) rfl ?_); (try (refine gate_guard (by rfl) ?_; dsimp only)); refine box_event ?hg (N := 2) ?hd (cs := #[.slice A0_0 l0_0.length c0_0, .slice A0_1 l0_1.length c0_1]) (t := 25) ?hr ?_; (case hd => rfl); (case hg => rfl); (case hr => first | (go_simp; done) | (go_simp; rfl)); intro gb191 hg w4 hbox hb; have n0_ := Aside0.mk (below_step (by repeat (first | (with_reducible first | exact HB.out | apply below_alloc | apply pw_below_drewN | apply below_drew1) | exact HB.out)) hb); have n1_ := Aside0.mk (hbox); have n2_ := Aside0.mk ((by rw [hg]; exact (below_size (by repeat (first | (with_reducible first | exact HB.out | apply below_alloc | apply pw_below_drewN | apply below_drew1) | exact HB.out))) : w.heap.size ≤ gb191)); have n3_ := Aside0.mk ((by rw [hg]; exact (below_size (by repeat (first | (with_reducible first | exact HB.out | apply below_alloc | apply pw_below_drewN | apply below_drew1) | exact HB.out))) : w.heap.size ≤ gb191)); clear HB; have HB := n0_; have BK191 := n1_; have GW191 := n2_; have GE191 := n3_; clear n0_ n1_ n2_ n3_; clear hb hbox hg) | ((with_reducible refine gate_dst (N := 3) rfl ?_); (try (refine gate_guard (by rfl) ?_; dsimp only)); refine box_event ?hg (N := 3) ?hd (cs := #[.slice A1_0 l1_0.length c1_0, .slice A1_1 l1_1.length c1_1]) (t := 25) ?hr ?_; (case hd => rfl); (case hg => rfl); (case hr => first | (go_simp; done) | (go_simp; rfl)); intro gb192 hg w5 hbox hb; have n0_ := Aside0.mk (blk_below (g := gb191) (o := .cells #[.slice A0_0 l0_0.length c0_0, .slice A0_1 l0_1.length c0_1] 25 (0, 0)) (by (with_reducible repeat (first | refine blk_drewN ?_ _ | refine blk_drew ?_ | refine blk_alloc ?_ _)); exact BK191.out) hb); have n1_ := Aside0.mk (below_step (by repeat (first | (with_reducible first | exact HB.out | apply below_alloc | apply pw_below_drewN | apply below_drew1 | refine below_set ?_ GE191.out) | exact HB.out)) hb); have n2_ := Aside0.mk (hbox); have n3_ := Aside0.mk ((by rw [hg]; exact (below_size (by repeat (first | (with_reducible first | exact HB.out | apply below_alloc | apply pw_below_drewN | apply below_drew1 | refine below_set ?_ GE191.out) | exact HB.out))) : w.heap.size ≤ gb192)); have n4_ := Aside0.mk ((by rw [hg]; exact (below_size (by repeat (first | (with_reducible first | exact HB.out | apply below_alloc | apply pw_below_drewN | apply below_drew1 | refine below_set ?_ GE191.out) | exact HB.out))) : w.heap.size ≤ gb192)); have n5_ := Aside0.mk ((by rw [hg]; exact Nat.ne_of_lt (blk_lt (g := gb191) (o := .cells #[.slice A0_0 l0_0.length c0_0, .slice A0_1 l0_1.length c0_1] 25 (0, 0)) (by (with_reducible repeat (first | refine blk_drewN ?_ _ | refine blk_drew ?_ | refine blk_alloc ?_ _)); exact BK191.out)) : gb191 ≠ gb192)); have n6_ := Aside0.mk ((by rw [hg]; exact Nat.ne_of_gt (blk_lt (g := gb191) (o := .cells #[.slice A0_0 l0_0.length c0_0, .slice A0_1 l0_1.length c0_1] 25 (0, 0)) (by (with_reducible repeat (first | refine blk_drewN ?_ _ | refine blk_drew ?_ | refine blk_alloc ?_ _)); exact BK191.out)) : gb192 ≠ gb191)); clear BK191; clear HB; have BK191 := n0_; have HB := n1_; have BK192 := n2_; have GW192 := n3_; have GE192 := n4_; have NB191_192 := n5_; have NB192_191 := n6_; clear n0_ n1_ n2_ n3_ n4_ n5_ n6_; clear hb hbox hg)); go_upto_region 1 with (first | ((with_reducible refine gate_dst (N := 2) rfl ?_); (try (refine gate_guard (by rfl) ?_; dsimp only)); refine box_event ?hg (N := 2) ?hd (cs := #[.slice A0_0 l0_0.length c0_0, .slice A0_1 l0_1.length c0_1]) (t := 25) ?hr ?_; (case hd => rfl); (case hg => rfl); (case hr => first | (go_simp; done) | (go_simp; rfl)); intro gb191 hg w4 hbox hb; have n0_ := Aside0.mk (below_step (by repeat (first | (with_reducible first | exact HB.out | apply below_alloc | apply pw_below_drewN | apply below_drew1) | exact HB.out)) hb); have n1_ := Aside0.mk (hbox); have n2_ := Aside0.mk ((by rw [hg]; exact (below_size (by repeat (first | (with_reducible first | exact HB.out | apply below_alloc | apply pw_below_drewN | apply below_drew1) | exact HB.out))) : w.heap.size ≤ gb191)); have n3_ := Aside0.mk ((by rw [hg]; exact (below_size (by repeat (first | (with_reducible first | exact HB.out | apply below_alloc | apply pw_below_drewN | apply below_drew1) | exact HB.out))) : w.heap.size ≤ gb191)); clear HB; have HB := n0_; have BK191 := n1_; have GW191 := n2_; have GE191 := n3_; clear n0_ n1_ n2_ n3_; clear hb hbox hg) | ((with_reducible refine gate_dst (N := 3) rfl ?_); (try (refine gate_guard (by rfl) ?_; dsimp only)); refine box_event ?hg (N := 3) ?hd (cs := #[.slice A1_0 l1_0.length c1_0, .slice A1_1 l1_1.length c1_1]) (t := 25) ?hr ?_; (case hd => rfl); (case hg => rfl); (case hr => first | (go_simp; done) | (go_simp; rfl)); intro gb192 hg w5 hbox hb; have n0_ := Aside0.mk (blk_below (g := gb191) (o := .cells #[.slice A0_0 l0_0.length c0_0, .slice A0_1 l0_1.length c0_1] 25 (0, 0)) (by (with_reducible repeat (first | refine blk_drewN ?_ _ | refine blk_drew ?_ | refine blk_alloc ?_ _)); exact BK191.out) hb); have n1_ := Aside0.mk (below_step (by repeat (first | (with_reducible first | exact HB.out | apply below_alloc | apply pw_below_drewN | apply below_drew1 | refine below_set ?_ GE191.out) | exact HB.out)) hb); have n2_ := Aside0.mk (hbox); have n3_ := Aside0.mk ((by rw [hg]; exact (below_size (by repeat (first | (with_reducible first | exact HB.out | apply below_alloc | apply pw_below_drewN | apply below_drew1 | refine below_set ?_ GE191.out) | exact HB.out))) : w.heap.size ≤ gb192)); have n4_ := Aside0.mk ((by rw [hg]; exact (below_size (by repeat (first | (with_reducible first | exact HB.out | apply below_alloc | apply pw_below_drewN | apply below_drew1 | refine below_set ?_ GE191.out) | exact HB.out))) : w.heap.size ≤ gb192)); have n5_ := Aside0.mk ((by rw [hg]; exact Nat.ne_of_lt (blk_lt (g := gb191) (o := .cells #[.slice A0_0 l0_0.length c0_0, .slice A0_1 l0_1.length c0_1] 25 (0, 0)) (by (with_reducible repeat (first | refine blk_drewN ?_ _ | refine blk_drew ?_ | refine blk_alloc ?_ _)); exact BK191.out)) : gb191 ≠ gb192)); have n6_ := Aside0.mk ((by rw [hg]; exact Nat.ne_of_gt (blk_lt (g := gb191) (o := .cells #[.slice A0_0 l0_0.length c0_0, .slice A0_1 l0_1.length c0_1] 25 (0, 0)) (by (with_reducible repeat (first | refine blk_drewN ?_ _ | refine blk_drew ?_ | refine blk_alloc ?_ _)); exact BK191.out)) : gb192 ≠ gb191)); clear BK191; clear HB; have BK191 := n0_; have HB := n1_; have BK192 := n2_; have GW192 := n3_; have GE192 := n4_; have NB191_192 := n5_; have NB192_191 := n6_; clear n0_ n1_ n2_ n3_ n4_ n5_ n6_; clear hb hbox hg)))
  (try simp only [Act.put, List.setIfInBounds_toArray, List.set_cons_zero, List.set_cons_succ])
  go_cut [22] (fun v22 wc => ∃ (kq : Nat) (x22_2 : Bool), v22 = .bool x22_2 ∧ Aside0 (shapesearchref24_Same.j0 kq x22_2 l0_0 l0_1 l1_0 l1_1 = some r) ∧ Aside0 (kq ≤ k) ∧ Aside0 (wc.heap[gb191]? = some (.cells #[(.slice A0_0 l0_0.length c0_0), (.slice A0_1 l0_1.length c0_1)] 25 (0, 0))) ∧ Aside0 (wc.heap[gb192]? = some (.cells #[(.slice A1_0 l1_0.length c1_0), (.slice A1_1 l1_1.length c1_1)] 25 (0, 0))) ∧ Aside0 (Below w.heap.size w wc))
  case first =>
    have H := HC3.out
    clear HC3
    by_cases c6 : (l0_0.length : Int) = (l1_0.length : Int)
    · rw [if_pos c6] at H
      have c6b0 : ((l0_0.length : Int) == (l1_0.length : Int)) = true := beq_iff_eq.mpr c6
      have c6b1 : ((l0_0.length : Int) != (l1_0.length : Int)) = false := bne_eq_false_iff_eq.mpr c6
      have c6b2 : (l0_0.length == l1_0.length) = true := by first | simpa using c6 | (simp at c6 ⊢; omega)
      clear c6
      (first | rw [c6b0] | (simp only [i64_w, i32_w]; rw [c6b0]) | skip)
      have H' := Aside0.mk H
      clear H
      have hnb7 := NB191_192.out
      have hnc7 := NB192_191.out
      have hcz8_0 : w5.cell? ⟨gb191, 0, none⟩ = some (.slice A0_0 l0_0.length c0_0) := (blk_cell BK191.out 0).trans rfl
      have hcz8_1 : w5.cell? ⟨gb191, 1, none⟩ = some (.slice A0_1 l0_1.length c0_1) := (blk_cell BK191.out 1).trans rfl
      have hfz8_0 := blk_frozen BK191.out 0
      have hfz8_1 := blk_frozen BK191.out 1
      have hcz9_0 : w5.cell? ⟨gb192, 0, none⟩ = some (.slice A1_0 l1_0.length c1_0) := (blk_cell BK192.out 0).trans rfl
      have hcz9_1 : w5.cell? ⟨gb192, 1, none⟩ = some (.slice A1_1 l1_1.length c1_1) := (blk_cell BK192.out 1).trans rfl
      have hfz9_0 := blk_frozen BK192.out 0
      have hfz9_1 := blk_frozen BK192.out 1
      go_wp2
      repeat (go_quiet (fail); try go_wp2)
      go_meet
      case rel => exact ⟨_, (((l0_1.length : Int) != (l1_1.length : Int))), (by first | rfl | (simp; done) | (simp [*]; done)), H', ⟨by first | omega | exact Nat.le_refl _⟩, ⟨by (with_reducible repeat (first | refine blk_drewN ?_ _ | refine blk_drew ?_ | refine blk_alloc ?_ _)); exact BK191.out⟩, ⟨by (with_reducible repeat (first | refine blk_drewN ?_ _ | refine blk_drew ?_ | refine blk_alloc ?_ _)); exact BK192.out⟩, ⟨by repeat (first | (with_reducible first | exact HB.out | apply below_alloc | apply pw_below_drewN | apply below_drew1 | refine below_set ?_ GE191.out | refine below_set ?_ GE192.out) | exact HB.out)⟩⟩
    · rw [if_neg c6] at H
      have c6b0 : ((l0_0.length : Int) == (l1_0.length : Int)) = false := beq_eq_false_iff_ne.mpr c6
      have c6b1 : ((l0_0.length : Int) != (l1_0.length : Int)) = true := bne_iff_ne.mpr c6
      have c6b2 : (l0_0.length == l1_0.length) = false := by first | simpa using c6 | (simp at c6 ⊢; omega)
      (first | rw [c6b0] | (simp only [i64_w, i32_w]; rw [c6b0]) | skip)
      have H' := Aside0.mk H
      clear H
      have hnb10 := NB191_192.out
      have hnc10 := NB192_191.out
      have hcz11_0 : w5.cell? ⟨gb191, 0, none⟩ = some (.slice A0_0 l0_0.length c0_0) := (blk_cell BK191.out 0).trans rfl
      have hcz11_1 : w5.cell? ⟨gb191, 1, none⟩ = some (.slice A0_1 l0_1.length c0_1) := (blk_cell BK191.out 1).trans rfl
      have hfz11_0 := blk_frozen BK191.out 0
      have hfz11_1 := blk_frozen BK191.out 1
      have hcz12_0 : w5.cell? ⟨gb192, 0, none⟩ = some (.slice A1_0 l1_0.length c1_0) := (blk_cell BK192.out 0).trans rfl
      have hcz12_1 : w5.cell? ⟨gb192, 1, none⟩ = some (.slice A1_1 l1_1.length c1_1) := (blk_cell BK192.out 1).trans rfl
      have hfz12_0 := blk_frozen BK192.out 0
      have hfz12_1 := blk_frozen BK192.out 1
      go_wp2
      repeat (go_quiet (fail); try go_wp2)
      go_meet
      case rel => exact ⟨_, (true), (by first | rfl | (simp; done) | (simp [*]; done)), H', ⟨by first | omega | exact Nat.le_refl _⟩, ⟨by (with_reducible repeat (first | refine blk_drewN ?_ _ | refine blk_drew ?_ | refine blk_alloc ?_ _)); exact BK191.out⟩, ⟨by (with_reducible repeat (first | refine blk_drewN ?_ _ | refine blk_drew ?_ | refine blk_alloc ?_ _)); exact BK192.out⟩, ⟨by repeat (first | (with_reducible first | exact HB.out | apply below_alloc | apply pw_below_drewN | apply below_drew1 | refine below_set ?_ GE191.out | refine below_set ?_ GE192.out) | exact HB.out)⟩⟩
  case rest =>
    clear HC3
    try clear c1
    try clear p2
    try clear c6
    try clear c6b0
    try clear c6b1
    try clear c6b2
    try clear c7
    try clear c9
    try clear c10
    try clear hcz11_0
    try clear hcz11_1
    try clear hcz12_0
    try clear hcz12_1
    try clear hcz8_0
    try clear hcz8_1
    try clear hcz9_0
    try clear hcz9_1
    try clear hfz11_0
    try clear hfz11_1
    try clear hfz12_0
    try clear hfz12_1
    try clear hfz8_0
    try clear hfz8_1
    try clear hfz9_0
    try clear hfz9_1
    obtain ⟨kq, x22_2, rfl, HA, HJ2, BK191, BK192, HB⟩ := hcut
    cases kq with
    | zero => exact absurd HA.out (by simp [shapesearchref24_Same.j0])
    | succ kj2 =>
      have H := HA.out
      clear HA
      simp only [shapesearchref24_Same.j0] at H
      by_cases c13 : x22_2 = true
      · subst c13
        have H1 : (some false) = some r := by rw [if_pos rfl] at H; exact H
        clear H
        have H := H1
        clear H1
        obtain rfl := Option.some.inj H
        go_wp2
        repeat (go_quiet (fail); try go_wp2)
        go_ret
        exact ⟨by first | rfl | (simp [errW_none, errW_some] <;> rfl) | (simp [*, errW_none, errW_some] <;> rfl), by repeat (first | (with_reducible first | exact HB.out | apply below_alloc | apply pw_below_drewN | apply below_drew1 | refine below_set ?_ GE191.out | refine below_set ?_ GE192.out) | exact HB.out)⟩
      · replace c13 := Bool.eq_false_iff.mpr c13
        subst c13
        have H1 : (shapesearchref24_Same.l0 kj2 0 l0_0 l0_1 l1_0 l1_1) = some r := by rw [if_neg (show ¬ (false = true) by decide)] at H; exact H
        clear H
        have H := H1
        clear H1
        have H' := Aside0.mk H
        clear H
        go_wp2
        repeat (go_quiet (fail); try go_wp2)
        go_loopg [5] kj2 (fun kq v5 w' => ∃ (x5_2 : Int), v5 = .int .i64 x5_2 ∧ Aside0 (shapesearchref24_Same.l0 kq x5_2 l0_0 l0_1 l1_0 l1_1 = some r) ∧ Aside0 (kq ≤ kj2) ∧ Aside0 (w'.heap[gb191]? = some (.cells #[(.slice A0_0 l0_0.length c0_0), (.slice A0_1 l0_1.length c0_1)] 25 (0, 0))) ∧ Aside0 (w'.heap[gb192]? = some (.cells #[(.slice A1_0 l1_0.length c1_0), (.slice A1_1 l1_1.length c1_1)] 25 (0, 0))) ∧ Aside0 (Below w.heap.size w w'))
        case atStart => exact ⟨(0), (by first | rfl | (simp; done) | (simp [*]; done)), H', ⟨Nat.le_refl _⟩, ⟨by (with_reducible repeat (first | refine blk_drewN ?_ _ | refine blk_drew ?_ | refine blk_alloc ?_ _)); exact BK191.out⟩, ⟨by (with_reducible repeat (first | refine blk_drewN ?_ _ | refine blk_drew ?_ | refine blk_alloc ?_ _)); exact BK192.out⟩, ⟨by repeat (first | (with_reducible first | exact HB.out | apply below_alloc | apply pw_below_drewN | apply below_drew1 | refine below_set ?_ GE191.out | refine below_set ?_ GE192.out) | exact HB.out)⟩⟩
        case round =>
          clear H'
          try clear c1
          try clear p2
          try clear c6
          try clear c6b0
          try clear c6b1
          try clear c6b2
          try clear c7
          try clear c9
          try clear c10
          try clear c13
          try clear hcz11_0
          try clear hcz11_1
          try clear hcz12_0
          try clear hcz12_1
          try clear hcz8_0
          try clear hcz8_1
          try clear hcz9_0
          try clear hcz9_1
          try clear hfz11_0
          try clear hfz11_1
          try clear hfz12_0
          try clear hfz12_1
          try clear hfz8_0
          try clear hfz8_1
          try clear hfz9_0
          try clear hfz9_1
          try clear p2
          obtain ⟨x5_2, rfl, HA, HK2, BK191, BK192, HB⟩ := hrel
          cases gk with
          | zero => exact absurd HA.out (by simp [shapesearchref24_Same.l0])
          | succ k2 =>
            have H := HA.out
            clear HA
            simp only [shapesearchref24_Same.l0] at H
            by_cases c14 : x5_2 < (l0_0.length : Int)
            · rw [if_pos c14] at H
              have c14b0 : decide (x5_2 < (l0_0.length : Int)) = true := decide_eq_true c14
              clear c14
              by_cases c15 : 0 ≤ x5_2
              · rw [if_pos c15] at H
                have c15b0 : decide (0 ≤ x5_2) = true := decide_eq_true c15
                clear c15
                by_cases c16 : x5_2 < (l1_0.length : Int)
                · rw [if_pos c16] at H
                  have c16b0 : decide (x5_2 < (l1_0.length : Int)) = true := decide_eq_true c16
                  clear c16
                  by_cases c17 : (strOfNums (rd_L1 l0_0 x5_2)).toList = (strOfNums (rd_L1 l1_0 x5_2)).toList
                  · rw [if_pos c17] at H
                    have c17b0 : ((strOfNums (rd_L1 l0_0 x5_2)).toList == (strOfNums (rd_L1 l1_0 x5_2)).toList) = true := beq_iff_eq.mpr c17
                    have c17b1 : ((strOfNums (rd_L1 l0_0 x5_2)).toList != (strOfNums (rd_L1 l1_0 x5_2)).toList) = false := bne_eq_false_iff_eq.mpr c17
                    clear c17
                    have H' := Aside0.mk H
                    clear H
                    have hnb18 := NB191_192.out
                    have hnc18 := NB192_191.out
                    have hcz19_0 : wr.cell? ⟨gb191, 0, none⟩ = some (.slice A0_0 l0_0.length c0_0) := (blk_cell BK191.out 0).trans rfl
                    have hcz19_1 : wr.cell? ⟨gb191, 1, none⟩ = some (.slice A0_1 l0_1.length c0_1) := (blk_cell BK191.out 1).trans rfl
                    have hfz19_0 := blk_frozen BK191.out 0
                    have hfz19_1 := blk_frozen BK191.out 1
                    have p193 : 0 ≤ (x5_2 : Int) := of_decide_eq_true (by first | (with_reducible assumption) | assumption)
                    have q193 : x5_2 < (l0_0.length : Int) := of_decide_eq_true (by first | (with_reducible assumption) | assumption)
                    obtain ⟨ad193, A193_0, c193_0, e193, hx193_0, hl193_0, hi193_0⟩ := at_L1 HR0_0.out x5_2 p193 q193
                    cases e193
                    replace hx193_0 := (HB.out.cell (World.block_lt_of_cell? w _ hx193_0)).trans hx193_0
                    have HR193_0 := Aside0.mk hi193_0
                    have HC193_0 := Aside0.mk hl193_0
                    clear hi193_0 hl193_0
                    replace p193 := eq_true p193
                    replace q193 := eq_true q193
                    have hcv20 := Kd.C_string (P := Try.prog) (A := A193_0) (c := c193_0) Try.underlying26 Try.underlying5 Try.underlying9 (Kd.C_below HR193_0.out HB.out)
                    have hcv20q := fun n_ : Nat => Kd.C_string (P := Try.prog) (A := A193_0) (c := c193_0) Try.underlying26 Try.underlying5 Try.underlying9 (Kd.C_drewN (Kd.C_below HR193_0.out HB.out) n_)
                    have hcz21_0 : wr.cell? ⟨gb192, 0, none⟩ = some (.slice A1_0 l1_0.length c1_0) := (blk_cell BK192.out 0).trans rfl
                    have hcz21_1 : wr.cell? ⟨gb192, 1, none⟩ = some (.slice A1_1 l1_1.length c1_1) := (blk_cell BK192.out 1).trans rfl
                    have hfz21_0 := blk_frozen BK192.out 0
                    have hfz21_1 := blk_frozen BK192.out 1
                    have p194 : 0 ≤ (x5_2 : Int) := of_decide_eq_true (by first | (with_reducible assumption) | assumption)
                    have q194 : x5_2 < (l1_0.length : Int) := of_decide_eq_true (by first | (with_reducible assumption) | assumption)
                    obtain ⟨ad194, A194_0, c194_0, e194, hx194_0, hl194_0, hi194_0⟩ := at_L1 HR1_0.out x5_2 p194 q194
                    cases e194
                    replace hx194_0 := (HB.out.cell (World.block_lt_of_cell? w _ hx194_0)).trans hx194_0
                    have HR194_0 := Aside0.mk hi194_0
                    have HC194_0 := Aside0.mk hl194_0
                    clear hi194_0 hl194_0
                    replace p194 := eq_true p194
                    replace q194 := eq_true q194
                    have hcv22 := Kd.C_string (P := Try.prog) (A := A194_0) (c := c194_0) Try.underlying26 Try.underlying5 Try.underlying9 (Kd.C_below HR194_0.out HB.out)
                    have hcv22q := fun n_ : Nat => Kd.C_string (P := Try.prog) (A := A194_0) (c := c194_0) Try.underlying26 Try.underlying5 Try.underlying9 (Kd.C_drewN (Kd.C_below HR194_0.out HB.out) n_)
                    go_wp2
                    repeat (go_quiet (fail); try go_wp2)
                    go_roundg k2
                    case measure => have := HJ2.out; have := HK2.out; omega
                    case rel => exact ⟨(wrap64 (x5_2 + 1)), (by first | rfl | (simp; done) | (simp [*]; done)), H', ⟨by have := HJ2.out; have := HK2.out; omega⟩, ⟨by (with_reducible repeat (first | refine blk_drewN ?_ _ | refine blk_drew ?_ | refine blk_alloc ?_ _)); exact BK191.out⟩, ⟨by (with_reducible repeat (first | refine blk_drewN ?_ _ | refine blk_drew ?_ | refine blk_alloc ?_ _)); exact BK192.out⟩, ⟨by repeat (first | (with_reducible first | exact HB.out | apply below_alloc | apply pw_below_drewN | apply below_drew1 | refine below_set ?_ GE191.out | refine below_set ?_ GE192.out) | exact HB.out)⟩⟩
                  · rw [if_neg c17] at H
                    have c17b0 : ((strOfNums (rd_L1 l0_0 x5_2)).toList == (strOfNums (rd_L1 l1_0 x5_2)).toList) = false := beq_eq_false_iff_ne.mpr c17
                    have c17b1 : ((strOfNums (rd_L1 l0_0 x5_2)).toList != (strOfNums (rd_L1 l1_0 x5_2)).toList) = true := bne_iff_ne.mpr c17
                    obtain rfl := Option.some.inj H
                    have hnb23 := NB191_192.out
                    have hnc23 := NB192_191.out
                    have hcz24_0 : wr.cell? ⟨gb191, 0, none⟩ = some (.slice A0_0 l0_0.length c0_0) := (blk_cell BK191.out 0).trans rfl
                    have hcz24_1 : wr.cell? ⟨gb191, 1, none⟩ = some (.slice A0_1 l0_1.length c0_1) := (blk_cell BK191.out 1).trans rfl
                    have hfz24_0 := blk_frozen BK191.out 0
                    have hfz24_1 := blk_frozen BK191.out 1
                    have p193 : 0 ≤ (x5_2 : Int) := of_decide_eq_true (by first | (with_reducible assumption) | assumption)
                    have q193 : x5_2 < (l0_0.length : Int) := of_decide_eq_true (by first | (with_reducible assumption) | assumption)
                    obtain ⟨ad193, A193_0, c193_0, e193, hx193_0, hl193_0, hi193_0⟩ := at_L1 HR0_0.out x5_2 p193 q193
                    cases e193
                    replace hx193_0 := (HB.out.cell (World.block_lt_of_cell? w _ hx193_0)).trans hx193_0
                    have HR193_0 := Aside0.mk hi193_0
                    have HC193_0 := Aside0.mk hl193_0
                    clear hi193_0 hl193_0
                    replace p193 := eq_true p193
                    replace q193 := eq_true q193
                    have hcv25 := Kd.C_string (P := Try.prog) (A := A193_0) (c := c193_0) Try.underlying26 Try.underlying5 Try.underlying9 (Kd.C_below HR193_0.out HB.out)
                    have hcv25q := fun n_ : Nat => Kd.C_string (P := Try.prog) (A := A193_0) (c := c193_0) Try.underlying26 Try.underlying5 Try.underlying9 (Kd.C_drewN (Kd.C_below HR193_0.out HB.out) n_)
                    have hcz26_0 : wr.cell? ⟨gb192, 0, none⟩ = some (.slice A1_0 l1_0.length c1_0) := (blk_cell BK192.out 0).trans rfl
                    have hcz26_1 : wr.cell? ⟨gb192, 1, none⟩ = some (.slice A1_1 l1_1.length c1_1) := (blk_cell BK192.out 1).trans rfl
                    have hfz26_0 := blk_frozen BK192.out 0
                    have hfz26_1 := blk_frozen BK192.out 1
                    have p194 : 0 ≤ (x5_2 : Int) := of_decide_eq_true (by first | (with_reducible assumption) | assumption)
                    have q194 : x5_2 < (l1_0.length : Int) := of_decide_eq_true (by first | (with_reducible assumption) | assumption)
                    obtain ⟨ad194, A194_0, c194_0, e194, hx194_0, hl194_0, hi194_0⟩ := at_L1 HR1_0.out x5_2 p194 q194
                    cases e194
                    replace hx194_0 := (HB.out.cell (World.block_lt_of_cell? w _ hx194_0)).trans hx194_0
                    have HR194_0 := Aside0.mk hi194_0
                    have HC194_0 := Aside0.mk hl194_0
                    clear hi194_0 hl194_0
                    replace p194 := eq_true p194
                    replace q194 := eq_true q194
                    have hcv27 := Kd.C_string (P := Try.prog) (A := A194_0) (c := c194_0) Try.underlying26 Try.underlying5 Try.underlying9 (Kd.C_below HR194_0.out HB.out)
                    have hcv27q := fun n_ : Nat => Kd.C_string (P := Try.prog) (A := A194_0) (c := c194_0) Try.underlying26 Try.underlying5 Try.underlying9 (Kd.C_drewN (Kd.C_below HR194_0.out HB.out) n_)
                    go_wp2
                    repeat (go_quiet (fail); try go_wp2)
                    go_ret
                    exact ⟨by first | rfl | (simp [errW_none, errW_some] <;> rfl) | (simp [*, errW_none, errW_some] <;> rfl), by repeat (first | (with_reducible first | exact HB.out | apply below_alloc | apply pw_below_drewN | apply below_drew1 | refine below_set ?_ GE191.out | refine below_set ?_ GE192.out) | exact HB.out)⟩
                · rw [if_neg c16] at H
                  exact absurd H (by simp)
              · rw [if_neg c15] at H
                exact absurd H (by simp)
            · rw [if_neg c14] at H
              have c14b0 : decide (x5_2 < (l0_0.length : Int)) = false := decide_eq_false c14
              clear c14
              have H' := Aside0.mk H
              clear H
              have hnb28 := NB191_192.out
              have hnc28 := NB192_191.out
              have hcz29_0 : wr.cell? ⟨gb191, 0, none⟩ = some (.slice A0_0 l0_0.length c0_0) := (blk_cell BK191.out 0).trans rfl
              have hcz29_1 : wr.cell? ⟨gb191, 1, none⟩ = some (.slice A0_1 l0_1.length c0_1) := (blk_cell BK191.out 1).trans rfl
              have hfz29_0 := blk_frozen BK191.out 0
              have hfz29_1 := blk_frozen BK191.out 1
              go_wp2
              repeat (go_quiet (fail); try go_wp2)
              go_loopg [6] k2 (fun kq v6 w' => ∃ (x6_3 : Int), v6 = .int .i64 x6_3 ∧ Aside0 (shapesearchref24_Same.l1 kq x6_3 l0_0 l0_1 l1_0 l1_1 = some r) ∧ Aside0 (kq ≤ k2) ∧ Aside0 (w'.heap[gb191]? = some (.cells #[(.slice A0_0 l0_0.length c0_0), (.slice A0_1 l0_1.length c0_1)] 25 (0, 0))) ∧ Aside0 (w'.heap[gb192]? = some (.cells #[(.slice A1_0 l1_0.length c1_0), (.slice A1_1 l1_1.length c1_1)] 25 (0, 0))) ∧ Aside0 (Below w.heap.size w w'))
              case atStart => exact ⟨(0), (by first | rfl | (simp; done) | (simp [*]; done)), H', ⟨Nat.le_refl _⟩, ⟨by (with_reducible repeat (first | refine blk_drewN ?_ _ | refine blk_drew ?_ | refine blk_alloc ?_ _)); exact BK191.out⟩, ⟨by (with_reducible repeat (first | refine blk_drewN ?_ _ | refine blk_drew ?_ | refine blk_alloc ?_ _)); exact BK192.out⟩, ⟨by repeat (first | (with_reducible first | exact HB.out | apply below_alloc | apply pw_below_drewN | apply below_drew1 | refine below_set ?_ GE191.out | refine below_set ?_ GE192.out) | exact HB.out)⟩⟩
              case round =>
                clear H'
                try clear c1
                try clear p1
                try clear q1
                try clear hx1
                try clear c2
                try clear p2
                try clear hcv2
                try clear c6
                try clear c6b0
                try clear c6b1
                try clear c6b2
                try clear p6
                try clear c7
                try clear c9
                try clear c10
                try clear c13
                try clear c14
                try clear c14b0
                try clear c15
                try clear c15b0
                try clear c16
                try clear c16b0
                try clear c17
                try clear c17b0
                try clear c17b1
                try clear c18
                try clear c19
                try clear p19
                try clear q19
                try clear hx19
                try clear hcv20
                try clear hcv22
                try clear c23
                try clear hcv25
                try clear hcv27
                try clear c28
                try clear hcz11_0
                try clear hcz11_1
                try clear hcz12_0
                try clear hcz12_1
                try clear hcz19_0
                try clear hcz19_1
                try clear hcz21_0
                try clear hcz21_1
                try clear hcz24_0
                try clear hcz24_1
                try clear hcz26_0
                try clear hcz26_1
                try clear hcz29_0
                try clear hcz29_1
                try clear hcz8_0
                try clear hcz8_1
                try clear hcz9_0
                try clear hcz9_1
                try clear hfz11_0
                try clear hfz11_1
                try clear hfz12_0
                try clear hfz12_1
                try clear hfz19_0
                try clear hfz19_1
                try clear hfz21_0
                try clear hfz21_1
                try clear hfz24_0
                try clear hfz24_1
                try clear hfz26_0
                try clear hfz26_1
                try clear hfz29_0
                try clear hfz29_1
                try clear hfz8_0
                try clear hfz8_1
                try clear hfz9_0
                try clear hfz9_1
                try clear hx193_0
                try clear hx194_0
                try clear p193
                try clear p194
                try clear p2
                try clear q193
                try clear q194
                obtain ⟨x6_3, rfl, HA, HK3, BK191, BK192, HB⟩ := hrel
                cases gk with
                | zero => exact absurd HA.out (by simp [shapesearchref24_Same.l1])
                | succ k3 =>
                  have H := HA.out
                  clear HA
                  simp only [shapesearchref24_Same.l1] at H
                  by_cases c30 : x6_3 < (l0_1.length : Int)
                  · rw [if_pos c30] at H
                    have c30b0 : decide (x6_3 < (l0_1.length : Int)) = true := decide_eq_true c30
                    clear c30
                    by_cases c31 : 0 ≤ x6_3
                    · rw [if_pos c31] at H
                      have c31b0 : decide (0 ≤ x6_3) = true := decide_eq_true c31
                      clear c31
                      by_cases c32 : x6_3 < (l1_1.length : Int)
                      · rw [if_pos c32] at H
                        have c32b0 : decide (x6_3 < (l1_1.length : Int)) = true := decide_eq_true c32
                        clear c32
                        by_cases c33 : ((rd_T42 l0_1 x6_3).f0) = ((rd_T42 l1_1 x6_3).f0)
                        · rw [if_pos c33] at H
                          have c33b0 : (((rd_T42 l0_1 x6_3).f0) == ((rd_T42 l1_1 x6_3).f0)) = true := beq_iff_eq.mpr c33
                          have c33b1 : (((rd_T42 l0_1 x6_3).f0) != ((rd_T42 l1_1 x6_3).f0)) = false := bne_eq_false_iff_eq.mpr c33
                          clear c33
                          by_cases c34 : (strOfNums ((rd_T42 l0_1 x6_3).f1)).toList = (strOfNums ((rd_T42 l1_1 x6_3).f1)).toList
                          · rw [if_pos c34] at H
                            have c34b0 : ((strOfNums ((rd_T42 l0_1 x6_3).f1)).toList == (strOfNums ((rd_T42 l1_1 x6_3).f1)).toList) = true := beq_iff_eq.mpr c34
                            have c34b1 : ((strOfNums ((rd_T42 l0_1 x6_3).f1)).toList != (strOfNums ((rd_T42 l1_1 x6_3).f1)).toList) = false := bne_eq_false_iff_eq.mpr c34
                            clear c34
                            have H' := Aside0.mk H
                            clear H
                            have hnb35 := NB191_192.out
                            have hnc35 := NB192_191.out
                            have hcz36_0 : wr.cell? ⟨gb191, 0, none⟩ = some (.slice A0_0 l0_0.length c0_0) := (blk_cell BK191.out 0).trans rfl
                            have hcz36_1 : wr.cell? ⟨gb191, 1, none⟩ = some (.slice A0_1 l0_1.length c0_1) := (blk_cell BK191.out 1).trans rfl
                            have hfz36_0 := blk_frozen BK191.out 0
                            have hfz36_1 := blk_frozen BK191.out 1
                            have p195 : 0 ≤ (x6_3 : Int) := of_decide_eq_true (by first | (with_reducible assumption) | assumption)
                            have q195 : x6_3 < (l0_1.length : Int) := of_decide_eq_true (by first | (with_reducible assumption) | assumption)
                            obtain ⟨ad195, A195_1, c195_1, e195, hx195_0, hx195_1, hl195_1, hi195_1⟩ := at_T42 HR0_1.out x6_3 p195 q195
                            cases e195
                            replace hx195_0 := (HB.out.cell (World.block_lt_of_cell? w _ hx195_0)).trans hx195_0
                            replace hx195_1 := (HB.out.cell (World.block_lt_of_cell? w _ hx195_1)).trans hx195_1
                            have HR195_1 := Aside0.mk hi195_1
                            have HC195_1 := Aside0.mk hl195_1
                            clear hi195_1 hl195_1
                            replace p195 := eq_true p195
                            replace q195 := eq_true q195
                            have hcz37_0 : wr.cell? ⟨gb192, 0, none⟩ = some (.slice A1_0 l1_0.length c1_0) := (blk_cell BK192.out 0).trans rfl
                            have hcz37_1 : wr.cell? ⟨gb192, 1, none⟩ = some (.slice A1_1 l1_1.length c1_1) := (blk_cell BK192.out 1).trans rfl
                            have hfz37_0 := blk_frozen BK192.out 0
                            have hfz37_1 := blk_frozen BK192.out 1
                            have p196 : 0 ≤ (x6_3 : Int) := of_decide_eq_true (by first | (with_reducible assumption) | assumption)
                            have q196 : x6_3 < (l1_1.length : Int) := of_decide_eq_true (by first | (with_reducible assumption) | assumption)
                            obtain ⟨ad196, A196_1, c196_1, e196, hx196_0, hx196_1, hl196_1, hi196_1⟩ := at_T42 HR1_1.out x6_3 p196 q196
                            cases e196
                            replace hx196_0 := (HB.out.cell (World.block_lt_of_cell? w _ hx196_0)).trans hx196_0
                            replace hx196_1 := (HB.out.cell (World.block_lt_of_cell? w _ hx196_1)).trans hx196_1
                            have HR196_1 := Aside0.mk hi196_1
                            have HC196_1 := Aside0.mk hl196_1
                            clear hi196_1 hl196_1
                            replace p196 := eq_true p196
                            replace q196 := eq_true q196
                            have p197 : 0 ≤ (x6_3 : Int) := of_decide_eq_true (by first | (with_reducible assumption) | assumption)
                            have q197 : x6_3 < (l0_1.length : Int) := of_decide_eq_true (by first | (with_reducible assumption) | assumption)
                            obtain ⟨ad197, A197_1, c197_1, e197, hx197_0, hx197_1, hl197_1, hi197_1⟩ := at_T42 HR0_1.out x6_3 p197 q197
                            obtain rfl : ad195 = ad197 := (by injection e197)
                            replace hx197_0 := (HB.out.cell (World.block_lt_of_cell? w _ hx197_0)).trans hx197_0
                            replace hx197_1 := (HB.out.cell (World.block_lt_of_cell? w _ hx197_1)).trans hx197_1
                            have HR197_1 := Aside0.mk hi197_1
                            have HC197_1 := Aside0.mk hl197_1
                            clear hi197_1 hl197_1
                            replace p197 := eq_true p197
                            replace q197 := eq_true q197
                            have ea_ := Option.some.inj (hx195_1.symm.trans hx197_1)
                            injection ea_ with ea_ en_ ec_
                            subst ea_
                            subst ec_
                            clear en_
                            have hcv38 := Kd.C_string (P := Try.prog) (A := A195_1) (c := c195_1) Try.underlying26 Try.underlying5 Try.underlying9 (Kd.C_below HR197_1.out HB.out)
                            have hcv38q := fun n_ : Nat => Kd.C_string (P := Try.prog) (A := A195_1) (c := c195_1) Try.underlying26 Try.underlying5 Try.underlying9 (Kd.C_drewN (Kd.C_below HR197_1.out HB.out) n_)
                            have p198 : 0 ≤ (x6_3 : Int) := of_decide_eq_true (by first | (with_reducible assumption) | assumption)
                            have q198 : x6_3 < (l1_1.length : Int) := of_decide_eq_true (by first | (with_reducible assumption) | assumption)
                            obtain ⟨ad198, A198_1, c198_1, e198, hx198_0, hx198_1, hl198_1, hi198_1⟩ := at_T42 HR1_1.out x6_3 p198 q198
                            obtain rfl : ad196 = ad198 := (by injection e198)
                            replace hx198_0 := (HB.out.cell (World.block_lt_of_cell? w _ hx198_0)).trans hx198_0
                            replace hx198_1 := (HB.out.cell (World.block_lt_of_cell? w _ hx198_1)).trans hx198_1
                            have HR198_1 := Aside0.mk hi198_1
                            have HC198_1 := Aside0.mk hl198_1
                            clear hi198_1 hl198_1
                            replace p198 := eq_true p198
                            replace q198 := eq_true q198
                            have ea_ := Option.some.inj (hx196_1.symm.trans hx198_1)
                            injection ea_ with ea_ en_ ec_
                            subst ea_
                            subst ec_
                            clear en_
                            have hcv39 := Kd.C_string (P := Try.prog) (A := A196_1) (c := c196_1) Try.underlying26 Try.underlying5 Try.underlying9 (Kd.C_below HR198_1.out HB.out)
                            have hcv39q := fun n_ : Nat => Kd.C_string (P := Try.prog) (A := A196_1) (c := c196_1) Try.underlying26 Try.underlying5 Try.underlying9 (Kd.C_drewN (Kd.C_below HR198_1.out HB.out) n_)
                            go_wp2
                            repeat (go_quiet (fail); try go_wp2)
                            go_roundg k3
                            case measure => have := HJ2.out; have := HK2.out; have := HK3.out; omega
                            case rel => exact ⟨(wrap64 (x6_3 + 1)), (by first | rfl | (simp; done) | (simp [*]; done)), H', ⟨by have := HJ2.out; have := HK2.out; have := HK3.out; omega⟩, ⟨by (with_reducible repeat (first | refine blk_drewN ?_ _ | refine blk_drew ?_ | refine blk_alloc ?_ _)); exact BK191.out⟩, ⟨by (with_reducible repeat (first | refine blk_drewN ?_ _ | refine blk_drew ?_ | refine blk_alloc ?_ _)); exact BK192.out⟩, ⟨by repeat (first | (with_reducible first | exact HB.out | apply below_alloc | apply pw_below_drewN | apply below_drew1 | refine below_set ?_ GE191.out | refine below_set ?_ GE192.out) | exact HB.out)⟩⟩
                          · rw [if_neg c34] at H
                            have c34b0 : ((strOfNums ((rd_T42 l0_1 x6_3).f1)).toList == (strOfNums ((rd_T42 l1_1 x6_3).f1)).toList) = false := beq_eq_false_iff_ne.mpr c34
                            have c34b1 : ((strOfNums ((rd_T42 l0_1 x6_3).f1)).toList != (strOfNums ((rd_T42 l1_1 x6_3).f1)).toList) = true := bne_iff_ne.mpr c34
                            obtain rfl := Option.some.inj H
                            have hnb40 := NB191_192.out
                            have hnc40 := NB192_191.out
                            have hcz41_0 : wr.cell? ⟨gb191, 0, none⟩ = some (.slice A0_0 l0_0.length c0_0) := (blk_cell BK191.out 0).trans rfl
                            have hcz41_1 : wr.cell? ⟨gb191, 1, none⟩ = some (.slice A0_1 l0_1.length c0_1) := (blk_cell BK191.out 1).trans rfl
                            have hfz41_0 := blk_frozen BK191.out 0
                            have hfz41_1 := blk_frozen BK191.out 1
                            have p195 : 0 ≤ (x6_3 : Int) := of_decide_eq_true (by first | (with_reducible assumption) | assumption)
                            have q195 : x6_3 < (l0_1.length : Int) := of_decide_eq_true (by first | (with_reducible assumption) | assumption)
                            obtain ⟨ad195, A195_1, c195_1, e195, hx195_0, hx195_1, hl195_1, hi195_1⟩ := at_T42 HR0_1.out x6_3 p195 q195
                            cases e195
                            replace hx195_0 := (HB.out.cell (World.block_lt_of_cell? w _ hx195_0)).trans hx195_0
                            replace hx195_1 := (HB.out.cell (World.block_lt_of_cell? w _ hx195_1)).trans hx195_1
                            have HR195_1 := Aside0.mk hi195_1
                            have HC195_1 := Aside0.mk hl195_1
                            clear hi195_1 hl195_1
                            replace p195 := eq_true p195
                            replace q195 := eq_true q195
                            have hcz42_0 : wr.cell? ⟨gb192, 0, none⟩ = some (.slice A1_0 l1_0.length c1_0) := (blk_cell BK192.out 0).trans rfl
                            have hcz42_1 : wr.cell? ⟨gb192, 1, none⟩ = some (.slice A1_1 l1_1.length c1_1) := (blk_cell BK192.out 1).trans rfl
                            have hfz42_0 := blk_frozen BK192.out 0
                            have hfz42_1 := blk_frozen BK192.out 1
                            have p196 : 0 ≤ (x6_3 : Int) := of_decide_eq_true (by first | (with_reducible assumption) | assumption)
                            have q196 : x6_3 < (l1_1.length : Int) := of_decide_eq_true (by first | (with_reducible assumption) | assumption)
                            obtain ⟨ad196, A196_1, c196_1, e196, hx196_0, hx196_1, hl196_1, hi196_1⟩ := at_T42 HR1_1.out x6_3 p196 q196
                            cases e196
                            replace hx196_0 := (HB.out.cell (World.block_lt_of_cell? w _ hx196_0)).trans hx196_0
                            replace hx196_1 := (HB.out.cell (World.block_lt_of_cell? w _ hx196_1)).trans hx196_1
                            have HR196_1 := Aside0.mk hi196_1
                            have HC196_1 := Aside0.mk hl196_1
                            clear hi196_1 hl196_1
                            replace p196 := eq_true p196
                            replace q196 := eq_true q196
                            have p197 : 0 ≤ (x6_3 : Int) := of_decide_eq_true (by first | (with_reducible assumption) | assumption)
                            have q197 : x6_3 < (l0_1.length : Int) := of_decide_eq_true (by first | (with_reducible assumption) | assumption)
                            obtain ⟨ad197, A197_1, c197_1, e197, hx197_0, hx197_1, hl197_1, hi197_1⟩ := at_T42 HR0_1.out x6_3 p197 q197
                            obtain rfl : ad195 = ad197 := (by injection e197)
                            replace hx197_0 := (HB.out.cell (World.block_lt_of_cell? w _ hx197_0)).trans hx197_0
                            replace hx197_1 := (HB.out.cell (World.block_lt_of_cell? w _ hx197_1)).trans hx197_1
                            have HR197_1 := Aside0.mk hi197_1
                            have HC197_1 := Aside0.mk hl197_1
                            clear hi197_1 hl197_1
                            replace p197 := eq_true p197
                            replace q197 := eq_true q197
                            have ea_ := Option.some.inj (hx195_1.symm.trans hx197_1)
                            injection ea_ with ea_ en_ ec_
                            subst ea_
                            subst ec_
                            clear en_
                            have hcv43 := Kd.C_string (P := Try.prog) (A := A195_1) (c := c195_1) Try.underlying26 Try.underlying5 Try.underlying9 (Kd.C_below HR197_1.out HB.out)
                            have hcv43q := fun n_ : Nat => Kd.C_string (P := Try.prog) (A := A195_1) (c := c195_1) Try.underlying26 Try.underlying5 Try.underlying9 (Kd.C_drewN (Kd.C_below HR197_1.out HB.out) n_)
                            have p198 : 0 ≤ (x6_3 : Int) := of_decide_eq_true (by first | (with_reducible assumption) | assumption)
                            have q198 : x6_3 < (l1_1.length : Int) := of_decide_eq_true (by first | (with_reducible assumption) | assumption)
                            obtain ⟨ad198, A198_1, c198_1, e198, hx198_0, hx198_1, hl198_1, hi198_1⟩ := at_T42 HR1_1.out x6_3 p198 q198
                            obtain rfl : ad196 = ad198 := (by injection e198)
                            replace hx198_0 := (HB.out.cell (World.block_lt_of_cell? w _ hx198_0)).trans hx198_0
                            replace hx198_1 := (HB.out.cell (World.block_lt_of_cell? w _ hx198_1)).trans hx198_1
                            have HR198_1 := Aside0.mk hi198_1
                            have HC198_1 := Aside0.mk hl198_1
                            clear hi198_1 hl198_1
                            replace p198 := eq_true p198
                            replace q198 := eq_true q198
                            have ea_ := Option.some.inj (hx196_1.symm.trans hx198_1)
                            injection ea_ with ea_ en_ ec_
                            subst ea_
                            subst ec_
                            clear en_
                            have hcv44 := Kd.C_string (P := Try.prog) (A := A196_1) (c := c196_1) Try.underlying26 Try.underlying5 Try.underlying9 (Kd.C_below HR198_1.out HB.out)
                            have hcv44q := fun n_ : Nat => Kd.C_string (P := Try.prog) (A := A196_1) (c := c196_1) Try.underlying26 Try.underlying5 Try.underlying9 (Kd.C_drewN (Kd.C_below HR198_1.out HB.out) n_)
                            go_wp2
                            repeat (go_quiet (fail); try go_wp2)
                            go_ret
                            exact ⟨by first | rfl | (simp [errW_none, errW_some] <;> rfl) | (simp [*, errW_none, errW_some] <;> rfl), by repeat (first | (with_reducible first | exact HB.out | apply below_alloc | apply pw_below_drewN | apply below_drew1 | refine below_set ?_ GE191.out | refine below_set ?_ GE192.out) | exact HB.out)⟩
                        · rw [if_neg c33] at H
                          have c33b0 : (((rd_T42 l0_1 x6_3).f0) == ((rd_T42 l1_1 x6_3).f0)) = false := beq_eq_false_iff_ne.mpr c33
                          have c33b1 : (((rd_T42 l0_1 x6_3).f0) != ((rd_T42 l1_1 x6_3).f0)) = true := bne_iff_ne.mpr c33
                          obtain rfl := Option.some.inj H
                          have hnb45 := NB191_192.out
                          have hnc45 := NB192_191.out
                          have hcz46_0 : wr.cell? ⟨gb191, 0, none⟩ = some (.slice A0_0 l0_0.length c0_0) := (blk_cell BK191.out 0).trans rfl
                          have hcz46_1 : wr.cell? ⟨gb191, 1, none⟩ = some (.slice A0_1 l0_1.length c0_1) := (blk_cell BK191.out 1).trans rfl
                          have hfz46_0 := blk_frozen BK191.out 0
                          have hfz46_1 := blk_frozen BK191.out 1
                          have p195 : 0 ≤ (x6_3 : Int) := of_decide_eq_true (by first | (with_reducible assumption) | assumption)
                          have q195 : x6_3 < (l0_1.length : Int) := of_decide_eq_true (by first | (with_reducible assumption) | assumption)
                          obtain ⟨ad195, A195_1, c195_1, e195, hx195_0, hx195_1, hl195_1, hi195_1⟩ := at_T42 HR0_1.out x6_3 p195 q195
                          cases e195
                          replace hx195_0 := (HB.out.cell (World.block_lt_of_cell? w _ hx195_0)).trans hx195_0
                          replace hx195_1 := (HB.out.cell (World.block_lt_of_cell? w _ hx195_1)).trans hx195_1
                          have HR195_1 := Aside0.mk hi195_1
                          have HC195_1 := Aside0.mk hl195_1
                          clear hi195_1 hl195_1
                          replace p195 := eq_true p195
                          replace q195 := eq_true q195
                          have hcz47_0 : wr.cell? ⟨gb192, 0, none⟩ = some (.slice A1_0 l1_0.length c1_0) := (blk_cell BK192.out 0).trans rfl
                          have hcz47_1 : wr.cell? ⟨gb192, 1, none⟩ = some (.slice A1_1 l1_1.length c1_1) := (blk_cell BK192.out 1).trans rfl
                          have hfz47_0 := blk_frozen BK192.out 0
                          have hfz47_1 := blk_frozen BK192.out 1
                          have p196 : 0 ≤ (x6_3 : Int) := of_decide_eq_true (by first | (with_reducible assumption) | assumption)
                          have q196 : x6_3 < (l1_1.length : Int) := of_decide_eq_true (by first | (with_reducible assumption) | assumption)
                          obtain ⟨ad196, A196_1, c196_1, e196, hx196_0, hx196_1, hl196_1, hi196_1⟩ := at_T42 HR1_1.out x6_3 p196 q196
                          cases e196
                          replace hx196_0 := (HB.out.cell (World.block_lt_of_cell? w _ hx196_0)).trans hx196_0
                          replace hx196_1 := (HB.out.cell (World.block_lt_of_cell? w _ hx196_1)).trans hx196_1
                          have HR196_1 := Aside0.mk hi196_1
                          have HC196_1 := Aside0.mk hl196_1
                          clear hi196_1 hl196_1
                          replace p196 := eq_true p196
                          replace q196 := eq_true q196
                          go_wp2
                          repeat (go_quiet (fail); try go_wp2)
                          go_ret
                          exact ⟨by first | rfl | (simp [errW_none, errW_some] <;> rfl) | (simp [*, errW_none, errW_some] <;> rfl), by repeat (first | (with_reducible first | exact HB.out | apply below_alloc | apply pw_below_drewN | apply below_drew1 | refine below_set ?_ GE191.out | refine below_set ?_ GE192.out) | exact HB.out)⟩
                      · rw [if_neg c32] at H
                        exact absurd H (by simp)
                    · rw [if_neg c31] at H
                      exact absurd H (by simp)
                  · rw [if_neg c30] at H
                    have c30b0 : decide (x6_3 < (l0_1.length : Int)) = false := decide_eq_false c30
                    clear c30
                    obtain rfl := Option.some.inj H
                    have hnb48 := NB191_192.out
                    have hnc48 := NB192_191.out
                    have hcz49_0 : wr.cell? ⟨gb191, 0, none⟩ = some (.slice A0_0 l0_0.length c0_0) := (blk_cell BK191.out 0).trans rfl
                    have hcz49_1 : wr.cell? ⟨gb191, 1, none⟩ = some (.slice A0_1 l0_1.length c0_1) := (blk_cell BK191.out 1).trans rfl
                    have hfz49_0 := blk_frozen BK191.out 0
                    have hfz49_1 := blk_frozen BK191.out 1
                    go_wp2
                    repeat (go_quiet (fail); try go_wp2)
                    go_ret
                    exact ⟨by first | rfl | (simp [errW_none, errW_some] <;> rfl) | (simp [*, errW_none, errW_some] <;> rfl), by repeat (first | (with_reducible first | exact HB.out | apply below_alloc | apply pw_below_drewN | apply below_drew1 | refine below_set ?_ GE191.out | refine below_set ?_ GE192.out) | exact HB.out)⟩

end Go.Proofs.Ythpiafbloebpjaa.PDeviceKeeps
