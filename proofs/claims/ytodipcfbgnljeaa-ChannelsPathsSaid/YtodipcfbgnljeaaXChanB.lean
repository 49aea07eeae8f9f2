/- This file proves what Apart of package channels computes, for bundles that fit: tables of the cheapest paths. -/
import Derived.Test.YtodipcfbgnljeaaXChan
import Derived.Deep.QuietTactic
import Derived.BigQuiet
import Derived.Deep.DeepCutAuto
import Derived.Laws.EntriesVeiled
set_option linter.unusedVariables false
set_option linter.unusedSimpArgs false
namespace Go.Proofs.Ytodipcfbgnljeaa.X
open Go.RowKit Go.Proofs.YtodipcfbgnljeaaW.PrintWords Go.Proofs.YtodipcfbgnljeaaW.PrintLast Go.Proofs.YtodipcfbgnljeaaW.PrintMore Go.Proofs.Ytodipcfbgnljeaa.MathWp

set_option maxHeartbeats 8000000 in
set_option maxRecDepth 1000000 in
theorem apart_yes (A0 : Option Addr) (c0 : Nat) (l0 : List (List Int)) (A1 : Option Addr) (c1 : Nat) (l1 : List (List Int)) (b : Int) (w : World) (hr0 : Kd.C (Kd.slice 3 (Kd.int .i64)) w A0 l0.length l0) (hr1 : Kd.C (Kd.slice 3 (Kd.int .i64)) w A1 l1.length l1) (ok : OkC l0 l1 b)
    (hchk : Aside0 (∀ W : World, Below w.heap.size w W → Calls Try.prog 32 #[.slice A0 l0.length c0, .slice A1 l1.length c1, .int .i64 b] W fun e w' => e = .returned (.int .i64 0) ∧ Below W.heap.size W w')) :
    Calls Try.prog 11 #[.slice A0 l0.length c0, .slice A1 l1.length c1, .int .i64 b] w fun e w' => e = .returned (.tuple #[.int .i64 (apart l0 l1 b), .int .i64 0]) ∧ Below w.heap.size w w' := by
  obtain ⟨⟨hb0, hb32, hnear⟩, ⟨hk1, hk4, hkl⟩, ⟨hn1, hn32, hm1, hm32⟩, hrow0, hrow1⟩ := ok
  obtain ⟨hlen0, hv0⟩ := rows_of hrow0
  obtain ⟨hlen1, hv1⟩ := rows_of hrow1
  clear hrow0 hrow1
  obtain ⟨n, hn⟩ : ∃ n, n = (chn l0 0).length := ⟨_, rfl⟩
  obtain ⟨m, hm⟩ : ∃ m, m = (chn l1 0).length := ⟨_, rfl⟩
  have HS := Aside0.mk (show ∀ k, apSum l0 l1 b (k + 1) = apSum l0 l1 b k + tab b (cst l0 l1 k) (n - 1) (m - 1) from fun k => by rw [hn, hm]; rfl)
  rw [← hn] at hn1 hn32 hlen0
  rw [← hm] at hm1 hm32 hlen1
  rw [← hn, ← hm] at hnear
  have HNR := Aside0.mk hnear
  clear hnear
  have HR0 := Aside0.mk hr0
  have HR1 := Aside0.mk hr1
  have HV0 := Aside0.mk hv0
  have HV1 := Aside0.mk hv1
  have HL0 := Aside0.mk hlen0
  have HL1 := Aside0.mk hlen1
  have HKL := Aside0.mk hkl
  have hkp1 : 0 < l1.length := by omega
  clear hkl
  clear hr0 hr1 hv0 hv1 hlen0 hlen1
  have HX0 := Aside0.mk (blk_alloc (heap_alloc_new w (.cells #[.slice A0 l0.length c0] 23)) (.cells #[.slice A1 l1.length c1] 23))
  have HY0 := Aside0.mk (show ((w.alloc (.cells #[.slice A0 l0.length c0] 23)).alloc (.cells #[.slice A1 l1.length c1] 23)).heap[w.heap.size + 1]? = some (.cells #[.slice A1 l1.length c1] 23 (0, 0)) from by have := heap_alloc_new (w.alloc (.cells #[.slice A0 l0.length c0] 23)) (.cells #[.slice A1 l1.length c1] 23); rwa [World.size_alloc] at this)
  have HB := Aside0.mk (show Below w.heap.size w ((w.alloc (.cells #[.slice A0 l0.length c0] 23)).alloc (.cells #[.slice A1 l1.length c1] 23)) from ((Below.refl _ _).alloc (Nat.le_refl _) _).alloc (by simp) _)
  go_enter Try.func11, Try.ntmps11
  go_upto_region 1 with (fail)
  generalize (w.alloc (Obj.cells #[.slice A0 l0.length c0] 23)).alloc (Obj.cells #[.slice A1 l1.length c1] 23) = W0 at HX0 HY0 HB ⊢
  have bx := (blk_cell HX0.out 0).trans rfl
  have by_ := (blk_cell HY0.out 0).trans rfl
  go_upto_region 5 with (go_at_call 32; refine (hchk.out _ HB.out).mono ?_; rintro e w1 ⟨rfl, hb1⟩)
  have HX1 := Aside0.mk (blk_below HX0.out hb1)
  have HY1 := Aside0.mk (blk_below HY0.out hb1)
  have HB1 := Aside0.mk (below_step HB.out hb1)
  clear hb1 HX0 HY0 HB bx by_ hchk
  clear W0
  have bx := (blk_cell HX1.out 0).trans rfl
  go_wp2_with fail
  clear bx
  have HN := Aside0.mk hn
  have HM := Aside0.mk hm
  clear hn hm
  go_loopg [9, 21] l0.length (fun gk s9 s21 wx => ∃ k : Nat, k + gk = l0.length ∧ s9 = .int .i64 (apSum l0 l1 b k) ∧ s21 = .int .i64 k ∧ Aside0 (0 ≤ apSum l0 l1 b k ∧ apSum l0 l1 b k ≤ 300000000 * (k : Int)) ∧ Aside0 (wx.heap[w.heap.size]? = some (.cells #[.slice A0 l0.length c0] 23 (0, 0))) ∧ Aside0 (wx.heap[w.heap.size + 1]? = some (.cells #[.slice A1 l1.length c1] 23 (0, 0))) ∧ Aside0 (Below w.heap.size w wx))
  case atStart => exact ⟨0, by omega, rfl, rfl, ⟨by simp [apSum]⟩, HX1, HY1, HB1⟩
  case round =>
    obtain ⟨k, hkg, rfl, rfl, HSB, HX, HY, HBw⟩ := hrel
    clear HX1 HY1 HB1
    clear w1
    cases gk with
    | zero =>
      obtain rfl : k = l0.length := by omega
      go_wp2_with fail
      go_ret2
      exact ⟨rfl, HBw.out⟩
    | succ gk =>
      have hk : k < l0.length := by omega
      have hki : (k : Int) < (l0.length : Int) := by omega
      go_upto_region 8 with (fail)
      have HKb := Aside0.mk (heap_alloc_new wr (Obj.cells #[.int .i64 (k : Int)] 3))
      have HBa := Aside0.mk ((Below.refl wr.heap.size wr).alloc (Nat.le_refl _) (Obj.cells #[.int .i64 (k : Int)] 3))
      generalize wr.alloc (Obj.cells #[.int .i64 (k : Int)] 3) = w1 at HKb HBa ⊢
      generalize wr.heap.size = gk0 at HKb ⊢
      have HX1 := Aside0.mk (blk_below HX.out HBa.out)
      have HY1 := Aside0.mk (blk_below HY.out HBa.out)
      have HB1 := Aside0.mk (below_step HBw.out HBa.out)
      clear HX HY HBw HBa
      clear wr
      have bx := (blk_cell HX1.out 0).trans rfl
      have by_ := (blk_cell HY1.out 0).trans rfl
      obtain ⟨ad0, B0, d0, e_0, e0, -⟩ := at_row (Kd.C_below HR0.out HB1.out) 0 (by omega)
      obtain ⟨ad1, B1, d1, e_1, e1, -⟩ := at_row (Kd.C_below HR1.out HB1.out) 0 hkp1
      subst e_0
      subst e_1
      rw [← HN.out] at e0
      rw [← HM.out] at e1
      have i1 : (0 : Int) < (l0.length : Int) := by omega
      have i1n : 0 < l0.length := by omega
      have i2 : (0 : Int) < (l1.length : Int) := by omega
      rw [show ad0.add 0 = ad0 by cases ad0; rfl] at e0
      rw [show ad1.add 0 = ad1 by cases ad1; rfl] at e1
      go_cut [11] (fun s9 wx => ∃ g, s9 = .pointer (some ⟨g, 0, none⟩) ∧ Aside0 (wx.heap[g]? = some (.cells #[.int .i64 (n : Int), .int .i64 (m : Int), .int .i64 b, .func (.func 33) #[] #[.pointer (some ⟨w.heap.size, 0, none⟩), .pointer (some ⟨gk0, 0, none⟩), .pointer (some ⟨w.heap.size + 1, 0, none⟩)]] 59 (0, 0))) ∧ Aside0 (Below w1.heap.size w1 wx))
      case first =>
        go_region_held3 (fun W => W.cell? ⟨w.heap.size, 0, none⟩ = some (.slice (some ad0) l0.length c0) ∧ W.cell? ⟨w.heap.size + 1, 0, none⟩ = some (.slice (some ad1) l1.length c1) ∧ W.cell? ad0 = some (.slice B0 n d0) ∧ W.cell? ad1 = some (.slice B1 m d1)) (go_keep) (fail)
        all_goals (go_wp2_with fail; go_meet)
        all_goals exact ⟨_, rfl, ⟨blk_drew (heap_alloc_new w1 _)⟩, ⟨below_drew ((Below.refl _ _).alloc (Nat.le_refl _) _)⟩⟩
      case rest =>
        obtain ⟨g, rfl, HG, HBg⟩ := hcut
        have s0 := (blk_cell HG.out 0).trans rfl
        have s1 := (blk_cell HG.out 1).trans rfl
        have s2 := (blk_cell HG.out 2).trans rfl
        have s3 := (blk_cell HG.out 3).trans rfl
        have HB2 := Aside0.mk (below_step HB1.out HBg.out)
        have HX2 := Aside0.mk (blk_below HX1.out HBg.out)
        have HY2 := Aside0.mk (blk_below HY1.out HBg.out)
        have HK2 := Aside0.mk (blk_below HKb.out HBg.out)
        have hk1' : k < l1.length := by have := HKL.out; omega
        have HL := Aside0.mk (least3_calls n m b (cst l0 l1 k) w.heap.size gk0 (w.heap.size + 1) _ hn1 hn32 hm1 hm32 hb0 hb32 (fun i j => (cst_b HV0.out HV1.out _ i j).1) (fun i j => by have := (cst_b HV0.out HV1.out k i j).2; omega)
          ⟨fun i j zi zj W ei ej hi hj hW => clo3 w.heap.size gk0 (w.heap.size + 1) (some ad0) (some ad1) c0 c1 l0 l1 k i j zi zj W ei ej (blk_below HX2.out hW) (blk_below HK2.out hW) (blk_below HY2.out hW) (Kd.C_below HR0.out (below_step HB2.out hW)) (Kd.C_below HR1.out (below_step HB2.out hW)) hk hk1' (by rw [HL0.out k hk]; exact hi) (by rw [HL1.out k hk1']; exact hj) HV0.out HV1.out⟩)
        have hv0 := tab_nn (b := b) (fun i j => (cst_b HV0.out HV1.out k i j).1) (n - 1) (m - 1)
        have hv1 := tab_bound (M := 4000000) hb0 (by omega) (fun i j => (cst_b HV0.out HV1.out k i j).2) _ (n - 1) (m - 1) rfl HNR.out
        have hv2 : tab b (cst l0 l1 k) (n - 1) (m - 1) ≤ 300000000 := by omega
        have hsb := HSB.out
        have hss := HS.out k
        have hsum : IntKind.i64.wrap (apSum l0 l1 b k + tab b (cst l0 l1 k) (n - 1) (m - 1)) = apSum l0 l1 b (k + 1) := (IntWalk.i64_in _ (by omega)).trans hss.symm
        have HSN := Aside0.mk (show 0 ≤ apSum l0 l1 b (k + 1) ∧ apSum l0 l1 b (k + 1) ≤ 300000000 * ((k + 1 : Nat) : Int) by omega)
        have hz3 : IntKind.i64.wrap ((k : Int) + 1) = (k : Int) + 1 := IntWalk.i64_in _ (by omega)
        clear hv0 hv1 hv2 hsb hss i1 i2
        generalize tab b (cst l0 l1 k) (n - 1) (m - 1) = res at HL hsum
        generalize apSum l0 l1 b k = a0 at hsum ⊢
        go_wp2_with (go_at_call 35; refine HL.out.mono ?_; rintro e w3 ⟨rfl, hb3⟩; have HX3 := Aside0.mk (blk_below HX2.out hb3); have HY3 := Aside0.mk (blk_below HY2.out hb3); have HB3 := Aside0.mk (below_step HB2.out hb3))
        go_roundg gk
        case measure => omega
        case rel => exact ⟨k + 1, by omega, rfl, by first | rfl | simp, HSN, HX3, HY3, HB3⟩
end Go.Proofs.Ytodipcfbgnljeaa.X
