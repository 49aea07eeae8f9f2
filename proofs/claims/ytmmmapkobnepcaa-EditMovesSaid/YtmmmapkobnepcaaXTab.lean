/- This file proves what the table of package edit is, loop by loop. -/
import Derived.Test.YtmmmapkobnepcaaXWords
import Derived.Test.YtmmmapkobnepcaaProg
import Derived.Test.YtmmmapkobnepcaaXTin
import Derived.Deep.WholeRow
import Derived.Deep.LoopGhost
import Derived.Deep.QuietTactic
import Derived.BigQuiet
import Derived.RegionTactic
import Derived.Laws.Tables
import Derived.Laws.ResultCell
import Derived.WalkKit
import Derived.RowKit3
import Derived.Outline
import Derived.OpenShut
set_option linter.unusedVariables false
set_option linter.unusedSimpArgs false
namespace Go.Proofs.Ytmmmapkobnepcaa.X
open Go.RowKit Go.Proofs.YtmmmapkobnepcaaW.PrintWords Go.Proofs.YtmmmapkobnepcaaW.PrintLast Go.Proofs.YtmmmapkobnepcaaW.PrintMore Go.Proofs.Ytmmmapkobnepcaa.MathEd
attribute [local go_sem] max2_int min2_int max_two min_two max_three min_three max_four min_four

theorem store_far {W : World} {B B' p : Nat} {u : Value} {o : Obj} (hne : B ≠ B') (h : W.heap[B]? = some o) : (W.setCell ⟨B', p, none⟩ u).heap[B]? = some o := by
  rw [heap_setCell_other _ _ _ _ hne]
  exact h
theorem store_below {w W : World} {B B' p : Nat} {u : Value} (hle : B ≤ B') (h : Below B w W) : Below B w (W.setCell ⟨B', p, none⟩ u) := Below.setCell h hle u
theorem store_ok {W : World} {B T : Nat} {g : Int} {x y : List Int} {i j : Nat} {v : Int} (u : Int) (h : W.heap[B]? = some (.cells (tabF (cellF g x y i j v)) T (0, 0))) : (W.setCell ⟨B, i * 33 + j, none⟩ (.int .i64 u)).heap[B]? = some (.cells (tabF (cellF g x y i j u)) T (0, 0)) := by
  rw [heap_setCell_same _ _ _ _ _ _ h, tabF_set, cellF_set]
set_option maxHeartbeats 8000000 in
set_option maxRecDepth 1000000 in
theorem etable_calls (A0 : Option Addr) (c0 : Nat) (x : List Int) (A1 : Option Addr) (c1 : Nat) (y : List Int) (g : Int) (w : World) (hx : Kd.C (Kd.int .i64) w A0 x.length x) (hy : Kd.C (Kd.int .i64) w A1 y.length y)
    (bx : ∀ v ∈ x, -1000 ≤ v ∧ v ≤ 1000) (by_ : ∀ v ∈ y, -1000 ≤ v ∧ v ≤ 1000) (hg : -1000 ≤ g ∧ g ≤ 1000) (hx32 : x.length ≤ 32) (hy32 : y.length ≤ 32) :
    Calls Try.prog 29 #[.slice A0 x.length c0, .slice A1 y.length c1, .int .i64 g] w fun e w' => e = .returned (.agg (tabF (cellF g x y (x.length + 1) 0 0))) ∧ Below w.heap.size w w' := by
  obtain ⟨hz, hsz⟩ := zero_of_info tabF_info
  have HX := Aside0.mk hx
  have HY := Aside0.mk hy
  have BX := Aside0.mk bx
  have BY := Aside0.mk by_
  have BG := Aside0.mk hg
  clear hx hy bx by_ hg
  go_enter Try.func29, Try.ntmps29
  go_wp2_with fail
  have hb1 : ((w.alloc (Obj.cells (tabF fun _ => 0) 55)).alloc (Obj.cells (tabF fun _ => 0) 55)).heap[w.heap.size + 1]? = some (.cells (tabF fun _ => 0) 55 (0, 0)) := heap_alloc2_new w _ _
  have hb0 : ((w.alloc (Obj.cells (tabF fun _ => 0) 55)).alloc (Obj.cells (tabF fun _ => 0) 55)).heap[w.heap.size]? = some (.cells (tabF fun _ => 0) 55 (0, 0)) := heap_alloc2_old w _ _
  have hbw : Below w.heap.size w ((w.alloc (Obj.cells (tabF fun _ => 0) 55)).alloc (Obj.cells (tabF fun _ => 0) 55)) := ((Below.refl _ _).alloc (Nat.le_refl _) _).alloc (by simp) _
  have HB1 := Aside0.mk hb1
  have HB0 := Aside0.mk hb0
  have HBW := Aside0.mk hbw
  clear hb1 hb0 hbw
  go_loopg [8] (x.length + 1) (fun gk s8 wx => ∃ i : Nat, i + gk = x.length + 1 ∧ s8 = .int .i64 i ∧ Aside0 (wx.heap[w.heap.size + 1]? = some (.cells (tabF (cellF g x y i 0 0)) 55 (0, 0))) ∧ Aside0 (wx.heap[w.heap.size]? = some (.cells (tabF fun _ => 0) 55 (0, 0))) ∧ Aside0 (Below w.heap.size w wx))
  case atStart => exact ⟨0, by omega, rfl, ⟨by rw [cellF_zero]; exact HB1.out⟩, HB0, HBW⟩
  case round =>
    obtain ⟨i, hig, rfl, HX1, HX0, HXW⟩ := hrel
    clear HB1 HB0 HBW
    cases gk with
    | zero =>
      obtain rfl : i = x.length + 1 := by omega
      go_wp2_with (first | (refine wpList_load_row rfl 55 _ rfl (w.heap.size + 1) rfl 55 (tabF (cellF g x y (x.length + 1) 0 0)) (0, 0) _ HX1.out Try.underlying55 rfl (by rw [tabF_size]; exact hsz) ?_) | (refine wpList_store_row rfl 55 _ _ rfl w.heap.size (tabF (cellF g x y (x.length + 1) 0 0)) rfl rfl 55 (tabF fun _ => 0) HX0.out (by rw [tabF_size]; exact hsz) (by rw [tabF_size, tabF_size]) (tabF_one _) ?_))
      refine bodyPost_ret (v := .agg (tabF (cellF g x y (x.length + 1) 0 0))) ?_ rfl ⟨rfl, ?_⟩
      · exact results_cell_row rfl _ _ w.heap.size 55 (tabF (cellF g x y (x.length + 1) 0 0)) (0, 0) _ rfl (setRow_heap wr w.heap.size (tabF fun _ => 0) _ 55 (0, 0) HX0.out) Try.underlying55 rfl (by rw [tabF_size]; exact hsz)
      · exact below_setRow HXW.out (Nat.le_refl _) _
    | succ gi =>
      have hi : i ≤ x.length := by omega
      go_wp2_with fail
      go_loopg [9] (y.length + 1) (fun gk s9 wx => ∃ j : Nat, j + gk = y.length + 1 ∧ s9 = .int .i64 j ∧ Aside0 (wx.heap[w.heap.size + 1]? = some (.cells (tabF (cellF g x y i j 0)) 55 (0, 0))) ∧ Aside0 (wx.heap[w.heap.size]? = some (.cells (tabF fun _ => 0) 55 (0, 0))) ∧ Aside0 (Below w.heap.size w wx))
      case atStart => exact ⟨0, by omega, rfl, HX1, HX0, HXW⟩
      case round =>
        obtain ⟨j, hjg, rfl, HX1, HX0, HXW⟩ := hrel
        cases gk with
        | zero =>
          obtain rfl : j = y.length + 1 := by omega
          go_wp2_with fail
          go_roundg gi
          case measure => omega
          case rel => exact ⟨i + 1, by omega, by first | rfl | simp, ⟨by rw [← cellF_row g x y i hy32]; exact HX1.out⟩, HX0, HXW⟩
        | succ gj =>
          have hj : j ≤ y.length := by omega
          go_wp2_with fail
          go_loopg [10, 11] 3 (fun gk s10 s11 wx => ∃ (t : Nat) (first : Bool) (v : Int), t + gk = 4 ∧ 1 ≤ t ∧ s10 = .bool first ∧ s11 = .int .i64 t ∧ Aside0 (Best g x y i j (t - 1) first v) ∧ Aside0 (wx.heap[w.heap.size + 1]? = some (.cells (tabF (cellF g x y i j v)) 55 (0, 0))) ∧ Aside0 (wx.heap[w.heap.size]? = some (.cells (tabF fun _ => 0) 55 (0, 0))) ∧ Aside0 (Below w.heap.size w wx))
          case atStart => exact ⟨1, true, 0, by omega, by omega, rfl, rfl, ⟨⟨rfl, rfl⟩⟩, HX1, HX0, HXW⟩
          case round =>
            obtain ⟨t, first, v, htg, ht1, rfl, rfl, HBest, HX1, HX0, HXW⟩ := hrel
            cases gk with
            | zero =>
              obtain rfl : t = 4 := by omega
              go_wp2_with fail
              go_roundg gj
              case measure => omega
              case rel => exact ⟨j + 1, by omega, by first | rfl | simp, ⟨by rw [← cellF_next g x y (by omega) hj, ← best_end hi hj HBest.out]; exact HX1.out⟩, HX0, HXW⟩
            | succ gs =>
              have ht : t = t - 1 + 1 := by omega
              have ht3 : (t : Int) ≤ 3 := by omega
              rcases cand_or g x y (s := t - 1) (by omega) hi hj with ⟨a, b, c, hc⟩ | hno
              · obtain ⟨hc0, hc1, hlex, hai, hbj⟩ := cand_bound BX.out BY.out BG.out hc
                have hp0 := dd_nn g x y a b
                have hp1 := dd_bound BG.out BX.out BY.out (by omega) hx32 hy32 a b
                have hcell : wr.cell? ⟨w.heap.size + 1, a * 33 + b, none⟩ = some (.int .i64 (dd g x y a b)) := (cell_of_row wr _ _ _ _ _ HX1.out).trans (by rw [tabF_get _ _ (by omega), cellF_at g x y v (by omega) (by omega) hlex (by omega)])
                have hcel' : wr.cell? ⟨w.heap.size + 1, i * 33 + j, none⟩ = some (.int .i64 v) := (cell_of_row wr _ _ _ _ _ HX1.out).trans (by rw [tabF_get _ _ (by omega), cellF_same])
                have hfr : wr.frozen? ⟨w.heap.size + 1, i * 33 + j, none⟩ = false := frozen_of_row wr _ _ _ _ HX1.out
                have HC := Aside0.mk hc
                have HT := Aside0.mk ht
                have ha33 : (a : Int) < 33 := by omega
                have hb33 : (b : Int) < 33 := by omega
                have hi33 : (i : Int) < 33 := by omega
                have hj33 : (j : Int) < 33 := by omega
                obtain ⟨p, hp⟩ : ∃ p, p = dd g x y a b := ⟨_, rfl⟩
                rw [← hp] at hp0 hp1 hcell
                have HP := Aside0.mk hp
                clear hc ht hlex hp
                cases first with
                | true =>
                  go_wp2_with (go_at_call 32; refine (last_yes' _ _ x _ _ y g (t - 1) t i j a b c _ HT.out (Kd.C_below HX.out HXW.out) (Kd.C_below HY.out HXW.out) BX.out BY.out BG.out hx32 hy32 HC.out).mono ?_; rintro e w' ⟨rfl, ⟨n, rfl⟩⟩)
                  go_quiet (fail)
                  go_wp2_with fail
                  go_region
                  go_wp2_with fail
                  go_roundg gs
                  case measure => omega
                  case rel =>
                    refine ⟨t + 1, false, p + c, by omega, by omega, rfl, by first | rfl | simp, ⟨?_⟩, ⟨?_⟩, ⟨?_⟩, ⟨?_⟩⟩
                    · show Best g x y i j t false (p + c)
                      rw [HT.out]
                      exact ⟨_, v, HBest.out, .inl ⟨a, b, c, HC.out, .inl ⟨.inl rfl, by rw [← HP.out], rfl⟩⟩⟩
                    · exact blk_drew (store_ok (p + c) HX1.out)
                    · exact blk_drew (store_far (Nat.ne_of_lt (Nat.lt_succ_self _)) HX0.out)
                    · exact store_below (Nat.le_succ _) (pw_below_drewN HXW.out _)
                | false =>
                  by_cases hlt : p + c < v
                  · skip
                    go_wp2_with (go_at_call 32; refine (last_yes' _ _ x _ _ y g (t - 1) t i j a b c _ HT.out (Kd.C_below HX.out HXW.out) (Kd.C_below HY.out HXW.out) BX.out BY.out BG.out hx32 hy32 HC.out).mono ?_; rintro e w' ⟨rfl, ⟨n, rfl⟩⟩)
                    go_quiet (fail)
                    go_wp2_with fail
                    go_region
                    go_wp2_with fail
                    go_roundg gs
                    case measure => omega
                    case rel =>
                      refine ⟨t + 1, false, p + c, by omega, by omega, rfl, by first | rfl | simp, ⟨?_⟩, ⟨?_⟩, ⟨?_⟩, ⟨?_⟩⟩
                      · show Best g x y i j t false (p + c)
                        rw [HT.out]
                        exact ⟨_, v, HBest.out, .inl ⟨a, b, c, HC.out, .inl ⟨.inr (by rw [← HP.out]; exact hlt), by rw [← HP.out], rfl⟩⟩⟩
                      · exact blk_drew (store_ok (p + c) HX1.out)
                      · exact blk_drew (store_far (Nat.ne_of_lt (Nat.lt_succ_self _)) HX0.out)
                      · exact store_below (Nat.le_succ _) (pw_below_drewN HXW.out _)
                  · skip
                    go_wp2_with (go_at_call 32; refine (last_yes' _ _ x _ _ y g (t - 1) t i j a b c _ HT.out (Kd.C_below HX.out HXW.out) (Kd.C_below HY.out HXW.out) BX.out BY.out BG.out hx32 hy32 HC.out).mono ?_; rintro e w' ⟨rfl, ⟨n, rfl⟩⟩)
                    go_quiet (fail)
                    go_wp2_with fail
                    go_roundg gs
                    case measure => omega
                    case rel =>
                      refine ⟨t + 1, false, v, by omega, by omega, rfl, by first | rfl | simp, ⟨?_⟩, ⟨?_⟩, ⟨?_⟩, ⟨?_⟩⟩
                      · show Best g x y i j t false (v)
                        rw [HT.out]
                        exact ⟨_, v, HBest.out, .inl ⟨a, b, c, HC.out, .inr ⟨rfl, by rw [← HP.out]; omega, rfl, rfl⟩⟩⟩
                      · exact HX1.out
                      · exact HX0.out
                      · repeat (first | exact HXW.out | apply pw_below_drewN | apply below_drew)
              · have HNO := Aside0.mk hno
                have HT := Aside0.mk ht
                clear hno ht
                go_wp2_with (go_at_call 32; refine (last_no' _ _ x _ _ y g (t - 1) t i j _ HT.out (Kd.C_below HX.out HXW.out) (Kd.C_below HY.out HXW.out) BX.out BY.out BG.out hx32 hy32 hi hj HNO.out).mono ?_; rintro e w' ⟨rfl, ⟨n, rfl⟩⟩)
                go_quiet (fail)
                go_wp2_with fail
                go_roundg gs
                case measure => omega
                case rel =>
                  refine ⟨t + 1, first, v, by omega, by omega, rfl, by first | rfl | simp, ⟨?_⟩, ⟨HX1.out⟩, ⟨HX0.out⟩, ⟨?_⟩⟩
                  · show Best g x y i j t first v
                    rw [HT.out]
                    exact ⟨first, v, HBest.out, .inr ⟨HNO.out, rfl, rfl⟩⟩
                  · repeat (first | exact HXW.out | apply pw_below_drewN | apply below_drew)
end Go.Proofs.Ytmmmapkobnepcaa.X
