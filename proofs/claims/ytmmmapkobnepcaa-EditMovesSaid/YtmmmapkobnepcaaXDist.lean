/- This file proves what the distance and the alignment of package edit are. -/
import Derived.Test.YtmmmapkobnepcaaXWords
import Derived.Test.YtmmmapkobnepcaaProg
import Derived.Test.YtmmmapkobnepcaaXTab
import Derived.Deep.WholeRow
import Derived.Deep.LoopGhost
import Derived.Deep.QuietTactic
import Derived.BigQuiet
import Derived.RegionTactic
import Derived.Laws.Tables
import Derived.Laws.ResultCell
import Derived.WalkKit
import Derived.RowKit3
import Derived.Outline
import Derived.OpenShut
set_option linter.unusedVariables false
set_option linter.unusedSimpArgs false
namespace Go.Proofs.Ytmmmapkobnepcaa.X
open Go.RowKit Go.Proofs.YtmmmapkobnepcaaW.PrintWords Go.Proofs.YtmmmapkobnepcaaW.PrintLast Go.Proofs.YtmmmapkobnepcaaW.PrintMore Go.Proofs.Ytmmmapkobnepcaa.MathEd
attribute [local go_sem] max2_int min2_int max_two min_two max_three min_three max_four min_four

/-- What two windows and a gap must be, so that all costs are numbers of moderate size. -/
def Ok (x y : List Int) (g : Int) : Prop := (∀ v ∈ x, -1000 ≤ v ∧ v ≤ 1000) ∧ (∀ v ∈ y, -1000 ≤ v ∧ v ≤ 1000) ∧ (-1000 ≤ g ∧ g ≤ 1000) ∧ x.length ≤ 32 ∧ y.length ≤ 32
instance (x y : List Int) (g : Int) : Decidable (Ok x y g) := by unfold Ok; infer_instance
theorem costs_info : (Try.prog.info? 53).map (fun i => i.size) = some 33 := by kernel_rfl
theorem int_info : (Try.prog.info? 3).map (fun i => i.size) = some 1 := by kernel_rfl
theorem run_index_row (F : Nat → Int) (n : Nat) (h : n < 33) (w : World) : (Instr.index 55 (.agg (tabF F)) (.int .i64 (n : Int))).run Try.prog w = .ok (.agg ((tabF F).extract (n * 33) (n * 33 + 33))) w := by
  obtain ⟨i, hi, hs⟩ := Option.map_eq_some_iff.1 costs_info
  have hu := Try.underlying55
  have hv := Try.underlying53
  have hn : (0 : Int) ≤ (n : Int) ∧ (n : Int) < ((33 : Nat) : Int) := by omega
  simp [Instr.index, run_underlying hu, run_underlying hv, asIntOf, hn, h, part, isAgg, sizeOf, typeInfo, hi, hs, go_sem]
theorem row_get (F : Nat → Int) (n m : Nat) (h : n < 33) (k : m < 33) : ((tabF F).extract (n * 33) (n * 33 + 33))[m]? = some (.int .i64 (F (n * 33 + m))) := by
  have hs : min (n * 33 + 33) (tabF F).size - n * 33 = 33 := by rw [tabF_size]; omega
  have hg := tabF_get F (n * 33 + m) (by omega)
  generalize tabF F = T at *
  rw [Array.getElem?_extract, hs, if_pos k]
  exact hg
theorem run_index_cell (F : Nat → Int) (n m : Nat) (h : n < 33) (k : m < 33) (w : World) : (Instr.index 53 (.agg ((tabF F).extract (n * 33) (n * 33 + 33))) (.int .i64 (m : Int))).run Try.prog w = .ok (.int .i64 (F (n * 33 + m))) w := by
  obtain ⟨i, hi, hs⟩ := Option.map_eq_some_iff.1 int_info
  have hu := Try.underlying53
  have hv := Try.underlying3
  have hn : (0 : Int) ≤ (m : Int) ∧ (m : Int) < ((33 : Nat) : Int) := by omega
  have hg := row_get F n m h k
  simp only [Instr.index, run_underlying hu, run_underlying hv, asIntOf, hn, k, part, isAgg, sizeOf, typeInfo, hi, hs, go_sem]
  simp [run_underlying hv, hi, hs, hg, go_sem, hn, isAgg]
  exact fun h' => absurd h' (Nat.not_le_of_lt k)
theorem cell_all (g : Int) (x y : List Int) (hy : y.length ≤ 32) : cellF g x y (x.length + 1) 0 0 (x.length * 33 + y.length) = ed g x y := by
  rw [cellF_at g x y 0 (by omega) (Nat.le_refl _) (.inl (Nat.lt_succ_self _)) (by omega), dd_all]
set_option maxHeartbeats 1600000 in
theorem dist_no (A0 : Option Addr) (c0 : Nat) (x : List Int) (A1 : Option Addr) (c1 : Nat) (y : List Int) (g r : Int) (w : World) (hr : r ≠ 0)
    (hchk : Calls Try.prog 28 #[.slice A0 x.length c0, .slice A1 y.length c1, .int .i64 g] w fun e w' => e = .returned (.int .i64 r) ∧ Below w.heap.size w w') :
    Calls Try.prog 11 #[.slice A0 x.length c0, .slice A1 y.length c1, .int .i64 g] w fun e w' => e = .returned (.tuple #[.int .i64 0, .int .i64 r]) ∧ Below w.heap.size w w' := by
  have hb : (r != 0) = true := bne_iff_ne.2 hr
  clear hr
  go_enter Try.func11, Try.ntmps11
  go_wp2_with (go_at_call 28; refine hchk.mono ?_; rintro e w1 ⟨rfl, hb1⟩)
  go_ret2
  exact ⟨rfl, hb1⟩
set_option maxHeartbeats 1600000 in
theorem dist_yes (A0 : Option Addr) (c0 : Nat) (x : List Int) (A1 : Option Addr) (c1 : Nat) (y : List Int) (g : Int) (w : World) (hx : Kd.C (Kd.int .i64) w A0 x.length x) (hy : Kd.C (Kd.int .i64) w A1 y.length y) (ok : Ok x y g)
    (hchk : Calls Try.prog 28 #[.slice A0 x.length c0, .slice A1 y.length c1, .int .i64 g] w fun e w' => e = .returned (.int .i64 0) ∧ Below w.heap.size w w') :
    Calls Try.prog 11 #[.slice A0 x.length c0, .slice A1 y.length c1, .int .i64 g] w fun e w' => e = .returned (.tuple #[.int .i64 (ed g x y), .int .i64 0]) ∧ Below w.heap.size w w' := by
  obtain ⟨bx, by_, hg, hx32, hy32⟩ := ok
  have hr1 := run_index_row (cellF g x y (x.length + 1) 0 0) x.length (by omega)
  have hr2 := run_index_cell (cellF g x y (x.length + 1) 0 0) x.length y.length (by omega) (by omega)
  rw [cell_all g x y hy32] at hr2
  have BX := Aside0.mk bx
  have BY := Aside0.mk by_
  have BG := Aside0.mk hg
  clear bx by_ hg
  go_enter Try.func11, Try.ntmps11
  go_wp2_with (first | (go_at_call 28; refine hchk.mono ?_; rintro e w1 ⟨rfl, hb1⟩) | (go_at_call 29; refine (etable_calls _ _ x _ _ y g _ (Kd.C_below hx hb1) (Kd.C_below hy hb1) BX.out BY.out BG.out hx32 hy32).mono ?_; rintro e w2 ⟨rfl, hb2⟩))
  go_ret2
  exact ⟨rfl, hb1.trans (hb2.mono hb1.size)⟩
end Go.Proofs.Ytmmmapkobnepcaa.X
