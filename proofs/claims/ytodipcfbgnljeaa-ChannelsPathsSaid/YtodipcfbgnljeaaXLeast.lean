/- This file proves what the search of package channels computes, with either closure: the last cell of the table of the cheapest paths. -/
import Derived.Test.YtodipcfbgnljeaaXWords
import Derived.Test.YtodipcfbgnljeaaProg
import Derived.Test.YtodipcfbgnljeaaMathWp
import Derived.Deep.WholeRow
import Derived.Deep.LoopGhost
import Derived.Laws.Tables
import Derived.Laws.ResultCell
import Derived.Laws.ByValue
import Derived.WalkKit
import Derived.RowKit3
import Derived.Outline
import Derived.OpenShut
import Derived.Deep.RegionHeld3
set_option linter.unusedVariables false
set_option linter.unusedSimpArgs false
namespace Go.Proofs.Ytodipcfbgnljeaa.X
open Go.RowKit Go.Proofs.YtodipcfbgnljeaaW.PrintWords Go.Proofs.YtodipcfbgnljeaaW.PrintLast Go.Proofs.YtodipcfbgnljeaaW.PrintMore Go.Proofs.Ytodipcfbgnljeaa.MathWp
attribute [local go_sem] max2_int min2_int max_two min_two max_three min_three max_four min_four

theorem w64' {n : Int} (h1 : -9223372036854775808 ≤ n) (h2 : n ≤ 9223372036854775807) : wrap64 n = n := by unfold wrap64; omega
theorem info_i : (Try.prog.info? 3).map (fun i => (i.zero, i.size, i.bytes)) = some (some (.int .i64 0), 1, 8) := by kernel_rfl
/-- A row of the table as a list; the row before the first one is of zeros. -/
def rowL (b : Int) (c : Nat → Nat → Int) (i m : Nat) : List Int := (List.range m).map (tab b c i)
def prevL (b : Int) (c : Nat → Nat → Int) (m : Nat) : Nat → List Int
  | 0 => List.replicate m 0
  | i + 1 => rowL b c i m
theorem rowL_len (b : Int) (c : Nat → Nat → Int) (i m : Nat) : (rowL b c i m).length = m := by simp [rowL]
theorem prevL_len (b : Int) (c : Nat → Nat → Int) (m i : Nat) : (prevL b c m i).length = m := by cases i <;> simp [prevL, rowL]
theorem rowL_get {b : Int} {c : Nat → Nat → Int} {i m j : Nat} (h : j < m) : rd (rowL b c i m) (j : Int) = tab b c i j := by
  unfold rd rowL
  rw [Int.toNat_natCast, List.getD_eq_getElem?_getD, List.getElem?_map, List.getElem?_range h]
  rfl
/-- Within a row: what is done, and zeros. -/
def partL (b : Int) (c : Nat → Nat → Int) (i m j : Nat) : List Int := rowL b c i j ++ List.replicate (m - j) 0
theorem partL_len {b : Int} {c : Nat → Nat → Int} {i m j : Nat} (h : j ≤ m) : (partL b c i m j).length = m := by simp [partL, rowL]; omega
theorem partL_set {b : Int} {c : Nat → Nat → Int} {i m j : Nat} (h : j < m) (v : Int) (hv : v = tab b c i j) : (partL b c i m j).set j v = partL b c i m (j + 1) := by
  unfold partL
  obtain ⟨d, rfl⟩ : ∃ d, m = j + 1 + d := ⟨m - (j + 1), by omega⟩
  rw [List.set_append_right _ _ (by rw [rowL_len]; exact Nat.le_refl _), rowL_len, Nat.sub_self, show j + 1 + d - j = d + 1 by omega, show j + 1 + d - (j + 1) = d by omega, List.replicate_succ, List.set_cons_zero, hv]
  unfold rowL
  rw [List.range_succ, List.map_append, List.append_assoc]
  rfl
theorem partL_set2 {b : Int} {c : Nat → Nat → Int} {i m j : Nat} (h : j < m) (u v : Int) (hv : v = tab b c i j) : ((partL b c i m j).set j u).set j v = partL b c i m (j + 1) := by
  rw [List.set_set]
  exact partL_set h v hv
theorem partL_get {b : Int} {c : Nat → Nat → Int} {i m j k : Nat} (h : k < j) : rd (partL b c i m j) (k : Int) = tab b c i k := by
  unfold partL rd
  rw [Int.toNat_natCast, List.getD_eq_getElem?_getD, List.getElem?_append_left (by rw [rowL_len]; exact h), ← List.getD_eq_getElem?_getD]
  have := rowL_get (b := b) (c := c) (i := i) h
  unfold rd at this
  rwa [Int.toNat_natCast] at this
theorem partL_end (b : Int) (c : Nat → Nat → Int) (i m : Nat) : partL b c i m m = rowL b c i m := by simp [partL]
set_option maxHeartbeats 8000000 in
set_option maxRecDepth 1000000 in
theorem least3_calls (n m : Nat) (b : Int) (c : Nat → Nat → Int) (p0 p1 p2 : Nat) (w : World) (hn : 1 ≤ n) (hn32 : n ≤ 32) (hm : 1 ≤ m) (hm32 : m ≤ 32) (hb0 : 0 ≤ b) (hb32 : b ≤ 32) (hc0 : ∀ i j, 0 ≤ c i j) (hc1 : ∀ i j, c i j ≤ 1000000000)
    (hcost : Aside0 (∀ (i j : Nat) (zi zj : Int) (W : World), zi = (i : Int) → zj = (j : Int) → i < n → j < m → Below w.heap.size w W → Calls Try.prog 33 #[.int .i64 zi, .int .i64 zj, .pointer (some ⟨p0, 0, none⟩), .pointer (some ⟨p1, 0, none⟩), .pointer (some ⟨p2, 0, none⟩)] W fun e w' => e = .returned (.int .i64 (c i j)) ∧ Below W.heap.size W w')) :
    Calls Try.prog 35 #[.agg #[.int .i64 (n : Int), .int .i64 (m : Int), .int .i64 b, .func (.func 33) #[] #[.pointer (some ⟨p0, 0, none⟩), .pointer (some ⟨p1, 0, none⟩), .pointer (some ⟨p2, 0, none⟩)]]] w fun e w' => e = .returned (.int .i64 (tab b c (n - 1) (m - 1))) ∧ Below w.heap.size w w' := by
  have HC0 := Aside0.mk hc0
  have HC1 := Aside0.mk hc1
  clear hc0 hc1
  go_enter Try.func35, Try.ntmps35
  go_upto_region 1 with (fail)
  have HX := Aside0.mk (heap_alloc_new w (Obj.cells #[.int .i64 (n : Int), .int .i64 (m : Int), .int .i64 b, .func (.func 33) #[] #[.pointer (some ⟨p0, 0, none⟩), .pointer (some ⟨p1, 0, none⟩), .pointer (some ⟨p2, 0, none⟩)]] 59))
  have HB := Aside0.mk ((Below.refl w.heap.size w).alloc (Nat.le_refl _) (Obj.cells #[.int .i64 (n : Int), .int .i64 (m : Int), .int .i64 b, .func (.func 33) #[] #[.pointer (some ⟨p0, 0, none⟩), .pointer (some ⟨p1, 0, none⟩), .pointer (some ⟨p2, 0, none⟩)]] 59))
  generalize w.alloc (Obj.cells #[.int .i64 (n : Int), .int .i64 (m : Int), .int .i64 b, .func (.func 33) #[] #[.pointer (some ⟨p0, 0, none⟩), .pointer (some ⟨p1, 0, none⟩), .pointer (some ⟨p2, 0, none⟩)]] 59) = W0 at HX HB ⊢
  have hlt := blk_lt HX.out
  have k1 := (blk_cell HX.out 1).trans rfl
  go_upto_region 2 with (first | ((with_reducible refine gate_dst (N := 10) rfl ?_); refine Kd.R_make (Kd.int .i64) _ 3 rfl (N := 10) rfl 22 _ _ rfl (m : Int) rfl rfl Try.underlying22 (.int .i64 0) 8 info_i rfl (by decide) (by omega) 0 (ok := fun _ => True) (okp := fun _ => True) rfl (fun _ hk => hk) trivial (by omega) (by rw [Int.toNat_natCast]; omega) (Below.refl _ _) (Nat.le_refl _) ?_; intro v10 w1 ho hb hg_ hnew_; clear hg_ hnew_; rw [Int.toNat_natCast] at ho; obtain ⟨A10, c10, e10⟩ := Kd.R_slice ho; rw [List.length_replicate] at e10; subst e10))
  have HX1 := Aside0.mk (blk_below HX.out hb)
  have HB1 := Aside0.mk (below_step HB.out hb)
  have HO := Aside0.mk (Kd.R_lower ho (show w.heap.size + 1 ≤ W0.heap.size from hlt))
  clear ho hb HX HB k1 hlt
  clear W0
  have k0 := (blk_cell HX1.out 0).trans rfl
  go_wp2_with fail
  clear k0
  go_loopg [3, 13] n (fun gk s3 s13 wx => ∃ (i : Nat) (A : Option Addr) (cp : Nat), i + gk = n ∧ s3 = .slice A m cp ∧ s13 = .int .i64 i ∧ Aside0 (Kd.R (Kd.int .i64) 3 wx (w.heap.size + 1) (fun _ => True) (.slice A m cp) (prevL b c m i)) ∧ Aside0 (wx.heap[w.heap.size]? = some (Obj.cells #[.int .i64 (n : Int), .int .i64 (m : Int), .int .i64 b, .func (.func 33) #[] #[.pointer (some ⟨p0, 0, none⟩), .pointer (some ⟨p1, 0, none⟩), .pointer (some ⟨p2, 0, none⟩)]] 59 (0, 0))) ∧ Aside0 (Below w.heap.size w wx))
  case atStart => exact ⟨0, A10, c10, by omega, rfl, rfl, ⟨HO.out⟩, HX1, HB1⟩
  case round =>
    obtain ⟨i, A, cp, hin, rfl, rfl, HR, HXw, HBw⟩ := hrel
    clear HX1 HB1 HO
    obtain ⟨gy, cy, ey, gyb, gyl, -, -⟩ := Kd.R_form HR.out (by rw [prevL_len]; omega)
    injection ey with ea en ec
    subst ea
    subst ec
    clear en
    cases gk with
    | zero =>
      obtain rfl : i = n := by omega
      obtain ⟨i', rfl⟩ : ∃ i', i = i' + 1 := ⟨i - 1, by omega⟩
      have k1 := (blk_cell HXw.out 1).trans rfl
      have hw : IntKind.i64.wrap ((m : Int) - 1) = ((m - 1 : Nat) : Int) := (IntWalk.i64_in _ (by omega)).trans (by omega)
      have hlt : ((m - 1 : Nat) : Int) < (m : Int) := by omega
      obtain ⟨hx, hf⟩ := Kd.R_celln 0 HR.out ((m - 1 : Nat) : Int) (by omega) (by omega)
      rw [Int.toNat_natCast] at hx hf
      rw [show rdOf 0 (prevL b c m (i' + 1)) ((m - 1 : Nat) : Int) = tab b c i' (m - 1) from rowL_get (by omega)] at hx
      clear hn hn32 hm hm32 hb0 hb32 hin
      go_wp2_with fail
      go_ret
      exact ⟨by first | rfl | simp, HBw.out⟩
    | succ gi =>
      have hi : i < n := by omega
      have hi' : (i : Int) < (n : Int) := by omega
      obtain ⟨zi, hzi⟩ : ∃ zi : Int, zi = (i : Int) := ⟨_, rfl⟩
      rw [← hzi] at hi'
      rw [← hzi]
      have HZI := Aside0.mk hzi
      clear hzi
      have k1 := (blk_cell HXw.out 1).trans rfl
      go_upto_region 7 with (first | ((with_reducible refine gate_dst (N := 19) rfl ?_); refine Kd.R_make (Kd.int .i64) _ 3 rfl (N := 19) rfl 22 _ _ rfl (m : Int) rfl rfl Try.underlying22 (.int .i64 0) 8 info_i rfl (by decide) (by omega) 0 (ok := fun _ => True) (okp := fun _ => True) rfl (fun _ hk => hk) trivial (by omega) (by rw [Int.toNat_natCast]; omega) (Below.refl _ _) (Nat.le_refl _) ?_; intro v19 w2 ho hb hg_ hnew_; clear hg_ hnew_; rw [Int.toNat_natCast] at ho; obtain ⟨A19, c19, e19⟩ := Kd.R_slice ho; rw [List.length_replicate] at e19; subst e19))
      have HXo := Aside0.mk (blk_below HXw.out hb)
      have HBo := Aside0.mk (below_step HBw.out hb)
      have HRo := Aside0.mk (Kd.R_mono (Kd.R_below (Kd.R_bound HR.out) hb) (ok' := fun k => k < wr.heap.size) (fun k hk => hk.2.2.1))
      obtain ⟨gx, cx, ex, gxb, gxl, -, -⟩ := Kd.R_form ho (by simp; omega)
      injection ex with ea en ec
      subst ea
      subst ec
      have HN := Aside0.mk ho
      have hB : w.heap.size + 1 ≤ wr.heap.size := blk_lt HXw.out
      clear en ho hb k1 HR HXw HBw
      generalize hBs : wr.heap.size = B at HN HRo gxb gyl hB
      clear hBs wr
      go_wp2_with fail
      go_loopg [22] m (fun gk s22 wx => ∃ j : Nat, j + gk = m ∧ s22 = .int .i64 j ∧ Aside0 (Kd.R (Kd.int .i64) 3 wx B (fun _ => True) (.slice (some ⟨gx, 0, none⟩) m c19) (partL b c i m j)) ∧ Aside0 (Kd.R (Kd.int .i64) 3 wx (w.heap.size + 1) (fun k => k < B) (.slice (some ⟨gy, 0, none⟩) m cp) (prevL b c m i)) ∧ Aside0 (wx.heap[w.heap.size]? = some (Obj.cells #[.int .i64 (n : Int), .int .i64 (m : Int), .int .i64 b, .func (.func 33) #[] #[.pointer (some ⟨p0, 0, none⟩), .pointer (some ⟨p1, 0, none⟩), .pointer (some ⟨p2, 0, none⟩)]] 59 (0, 0))) ∧ Aside0 (Below w.heap.size w wx))
      case atStart => exact ⟨0, by omega, rfl, ⟨HN.out⟩, HRo, HXo, HBo⟩
      case round =>
        obtain ⟨j, hjm, rfl, HN, HR, HX, HB⟩ := hrel
        clear HRo HXo HBo
        cases gk with
        | zero =>
          obtain rfl : j = m := by omega
          have hzw : IntKind.i64.wrap (zi + 1) = zi + 1 := IntWalk.i64_in _ (by have := HZI.out; omega)
          go_wp2_with fail
          go_roundg gi
          case measure => omega
          case rel => exact ⟨i + 1, _, _, by omega, rfl, by rw [show (((i + 1 : Nat)) : Int) = zi + 1 by have := HZI.out; omega] <;> first | rfl | simp, ⟨Kd.R_lower (by rw [show prevL b c j (i + 1) = partL b c i j j from (partL_end _ _ _ _).symm]; exact HN.out) hB⟩, HX, HB⟩
        | succ gj =>
          have hj : j < m := by omega
          obtain ⟨zj, hzj⟩ : ∃ zj : Int, zj = (j : Int) := ⟨_, rfl⟩
          rw [← hzj]
          have hj' : zj < (m : Int) := by omega
          have hj0 : 0 ≤ zj := by omega
          have hi0 : 0 ≤ zi := by have := HZI.out; omega
          have hm0 : (0 : Int) < (m : Int) := by omega
          have HZJ := Aside0.mk hzj
          have hpx : ∀ q : Nat, q < j → wr.cell? ⟨gx, q, none⟩ = some (.int .i64 (tab b c i q)) := fun q hq => by
            obtain ⟨hx, hf⟩ := Kd.R_celln 0 HN.out (q : Int) (by omega) (by omega)
            rw [Int.toNat_natCast, show rdOf 0 (partL b c i m j) (q : Int) = tab b c i q from partL_get hq] at hx
            exact hx
          have hpy : ∀ q p : Nat, q < m → i = p + 1 → wr.cell? ⟨gy, q, none⟩ = some (.int .i64 (tab b c p q)) := fun q p hq hp => by
            obtain ⟨hx, hf⟩ := Kd.R_celln 0 HR.out (q : Int) (by omega) (by omega)
            subst hp
            rw [Int.toNat_natCast, show rdOf 0 (prevL b c m (p + 1)) (q : Int) = tab b c p q from rowL_get hq] at hx
            exact hx
          obtain ⟨t0, h0⟩ : ∃ t0 : Int, t0 = if i = 0 ∧ j = 0 then 0 else 4611686018427387904 := ⟨_, rfl⟩
          obtain ⟨t1, h1⟩ : ∃ t1 : Int, t1 = if j = 0 then t0 else min t0 (tab b c i (j - 1)) := ⟨_, rfl⟩
          obtain ⟨v, h2⟩ : ∃ v : Int, v = if i = 0 then t1 else min t1 (min (tab b c (i - 1) j) (tab b c (i - 1) (j - 1))) := ⟨_, rfl⟩
          have HV0 := Aside0.mk (bst_is b c i j t0 t1 v h0 h1 h2)
          have H0 := Aside0.mk h0
          have H1 := Aside0.mk h1
          have H2 := Aside0.mk h2
          have HPX := Aside0.mk hpx
          have HPY := Aside0.mk hpy
          clear h0 h1 h2 hpx hpy hzj
          go_upto_region 11 with (fail)
          go_cut [30] (fun s30 wx => s30 = .bool (decide (i = 0 ∧ j = 0)) ∧ wx = wr)
          case first =>
            by_cases hi0 : i = 0
            · have hie : (zi == 0) = true := beq_iff_eq.mpr (by have := HZI.out; omega)
              by_cases hj0 : j = 0
              · have hje : (zj == 0) = true := beq_iff_eq.mpr (by have := HZJ.out; omega)
                have hd : decide (i = 0 ∧ j = 0) = true := decide_eq_true ⟨hi0, hj0⟩
                clear hi0 hj0
                go_wp2_with fail
                go_meet
                case rel => exact ⟨by rw [hd], rfl⟩
              · have hje : (zj == 0) = false := beq_eq_false_iff_ne.mpr (by have := HZJ.out; omega)
                have hd : decide (i = 0 ∧ j = 0) = false := decide_eq_false (fun h => hj0 h.2)
                clear hi0 hj0
                go_wp2_with fail
                go_meet
                case rel => exact ⟨by rw [hd], rfl⟩
            · have hie : (zi == 0) = false := beq_eq_false_iff_ne.mpr (by have := HZI.out; omega)
              have hd : decide (i = 0 ∧ j = 0) = false := decide_eq_false (fun h => hi0 h.1)
              clear hi0
              go_wp2_with fail
              go_meet
              case rel => exact ⟨by rw [hd], rfl⟩
          case rest =>
            obtain ⟨rfl, hwc⟩ := hcut
            subst hwc
            go_upto_if 30 with (fail)
            go_cut [7] (fun s7 wx => s7 = .int .i64 t0 ∧ wx = wc)
            case first =>
              have h0 := H0.out
              by_cases hd : i = 0 ∧ j = 0
              · rw [if_pos hd] at h0
                rw [decide_eq_true hd]
                clear hd
                go_wp2_with fail
                go_meet
                case rel => exact ⟨by rw [h0], rfl⟩
              · rw [if_neg hd] at h0
                rw [decide_eq_false hd]
                clear hd
                go_wp2_with fail
                go_meet
                case rel => exact ⟨by rw [h0], rfl⟩
            case rest =>
              obtain ⟨rfl, hwc⟩ := hcut
              subst hwc
              go_upto_if 32 with (fail)
              go_cut [7] (fun s7 wx => s7 = .int .i64 t1 ∧ wx = wc)
              case first =>
                have h1 := H1.out
                by_cases hj0 : j = 0
                · rw [if_pos hj0] at h1
                  have hjg : decide (0 < zj) = false := decide_eq_false (by have := HZJ.out; omega)
                  clear hj0
                  rw [hjg]
                  go_wp2_with fail
                  go_meet
                  case rel => exact ⟨by rw [h1], rfl⟩
                · rw [if_neg hj0] at h1
                  obtain ⟨zq, hzq⟩ : ∃ zq : Int, zq = zj - 1 := ⟨_, rfl⟩
                  have hw : IntKind.i64.wrap (zj - 1) = zq := (IntWalk.i64_in _ (by have := HZJ.out; omega)).trans hzq.symm
                  have hx := HPX.out (j - 1) (by omega)
                  have hqt : zq.toNat = j - 1 := by have := HZJ.out; omega
                  have hq0 : 0 ≤ zq := by have := HZJ.out; omega
                  have hqm : zq < (m : Int) := by have := HZJ.out; omega
                  have hjg : decide (0 < zj) = true := decide_eq_true (by have := HZJ.out; omega)
                  rw [← hqt] at hx h1
                  generalize tab b c i zq.toNat = u at hx h1
                  have hmn : (if u < t0 then u else t0) = t1 := by rw [h1]; split <;> omega
                  clear hj0 hqt hzq h1
                  rw [hjg]
                  go_wp2_with fail
                  go_meet
                  case rel => exact ⟨rfl, rfl⟩
              case rest =>
                obtain ⟨rfl, hwc⟩ := hcut
                subst hwc
                go_upto_if 41 with (fail)
                go_cut [7] (fun s7 wx => s7 = .int .i64 v ∧ Aside0 (Below wc.heap.size wc wx))
                case first =>
                  have h2 := H2.out
                  by_cases hi0 : i = 0
                  · rw [if_pos hi0] at h2
                    have hig : decide (0 < zi) = false := decide_eq_false (by have := HZI.out; omega)
                    clear hi0
                    rw [hig]
                    go_wp2_with fail
                    go_meet
                    case rel => exact ⟨by rw [h2], ⟨Below.refl _ _⟩⟩
                  · rw [if_neg hi0] at h2
                    obtain ⟨zq, hzq⟩ : ∃ zq : Int, zq = zj - 1 := ⟨_, rfl⟩
                    have hw : IntKind.i64.wrap (zj - 1) = zq := (IntWalk.i64_in _ (by have := HZJ.out; omega)).trans hzq.symm
                    obtain ⟨zm, hzm⟩ : ∃ zm : Int, zm = if 0 < zq then zq else 0 := ⟨_, rfl⟩
                    have hmx : (if 0 < zq then zq else 0) = zm := hzm.symm
                    have hmt : zm.toNat = j - 1 := by have := HZJ.out; split at hzm <;> omega
                    have hm0' : 0 ≤ zm := by split at hzm <;> omega
                    have hmm : zm < (m : Int) := by have := HZJ.out; split at hzm <;> omega
                    have hx := HPY.out j (i - 1) hj (by omega)
                    have hy := HPY.out (j - 1) (i - 1) (by omega) (by omega)
                    have hjt : zj.toNat = j := by have := HZJ.out; omega
                    have hig : decide (0 < zi) = true := decide_eq_true (by have := HZI.out; omega)
                    rw [← hmt, ← hjt] at h2
                    rw [← hjt] at hx
                    rw [← hmt] at hy
                    generalize tab b c (i - 1) zj.toNat = u1 at hx h2
                    generalize tab b c (i - 1) zm.toNat = u2 at hy h2
                    obtain ⟨u3, h3⟩ : ∃ u3 : Int, u3 = if u1 < t1 then u1 else t1 := ⟨_, rfl⟩
                    have hmn : (if u1 < t1 then u1 else t1) = u3 := h3.symm
                    have hmn2 : (if u2 < u3 then u2 else u3) = v := by rw [h2, h3]; split <;> split <;> omega
                    clear hi0 hzq hzm hmt hjt h2 h3
                    rw [hig]
                    go_upto_region 16 with (fail)
                    go_region_held3 (fun W => W.cell? ⟨gy, zj.toNat, none⟩ = some (.int .i64 u1) ∧ W.cell? ⟨gy, zm.toNat, none⟩ = some (.int .i64 u2)) (go_keep) (fail)
                    go_wp2_with fail
                    go_meet
                    case rel => exact ⟨rfl, ⟨below_drew (Below.refl _ _)⟩⟩
                case rest =>
                  obtain ⟨rfl, HWB⟩ := hcut
                  clear H0 H1 H2 HPX HPY
                  have hzj := HZJ.out
                  have hzi := HZI.out
                  have HNw := Aside0.mk (show Kd.R (Kd.int .i64) 3 (wc) B (fun _ => True) (.slice (some ⟨gx, 0, none⟩) m c19) (partL b c i m j) from Kd.R_below HN.out (HWB.out))
                  have HRw := Aside0.mk (show Kd.R (Kd.int .i64) 3 (wc) (w.heap.size + 1) (fun k => k < B) (.slice (some ⟨gy, 0, none⟩) m cp) (prevL b c m i) from Kd.R_below HR.out (HWB.out))
                  have HXw := Aside0.mk (blk_below (w1 := wc) HX.out (HWB.out))
                  have HBw := Aside0.mk (below_step (w2 := wc) HB.out (HWB.out))
                  clear HN HR HX HB
                  generalize (wc) = W at HNw HRw HXw HBw ⊢
                  obtain ⟨hcz, hfz⟩ := Kd.R_celln 0 HNw.out zj (by omega) (by omega)
                  have HN1 := Aside0.mk (Kd.R_putn HNw.out zj 4611686018427387904)
                  have HR1 := Aside0.mk (Kd.R_far (p := ⟨gx, zj.toNat, none⟩) HRw.out (fun k hk => by show k ≠ gx; have hk' : k < B := hk; omega) (.int .i64 4611686018427387904))
                  have HX1 := Aside0.mk ((Below.heap_setCell W ⟨gx, zj.toNat, none⟩ (.int .i64 4611686018427387904) _ (by show w.heap.size ≠ gx; omega)).trans HXw.out)
                  have HB1 := Aside0.mk (HBw.out.setCell (p := ⟨gx, zj.toNat, none⟩) (by show w.heap.size ≤ gx; omega) (.int .i64 4611686018427387904))
                  have hzl : zj < (m : Int) := by omega
                  have hzl0 : (0 : Int) ≤ zj := by omega
                  clear HNw HRw HXw HBw
                  clear hzi hzj
                  go_upto_region 18 with (fail)
                  have hzj := HZJ.out
                  have hzi := HZI.out
                  clear hcz hfz
                  generalize hW1 : W.setCell ⟨gx, _, none⟩ (.int .i64 4611686018427387904) = W1 at HN1 HR1 HX1 HB1 ⊢
                  clear hW1 W
                  have k2 := (blk_cell HX1.out 2).trans rfl
                  have k3 := (blk_cell HX1.out 3).trans rfl
                  have hs1 : IntKind.i64.wrap (zi - zj) = zi - zj := IntWalk.i64_in _ (by omega)
                  have hs2 : IntKind.i64.wrap (zj - zi) = zj - zi := IntWalk.i64_in _ (by omega)
                  have hzl1 : True := trivial
                  have hz1 : IntKind.i64.wrap (zj + 1) = zj + 1 := IntWalk.i64_in _ (by omega)
                  by_cases hnr : near b i j
                  · have ht : tab b c i j = min 4611686018427387904 (bst b c i j + c i j) := by rw [tab_is, if_pos hnr]
                    obtain ⟨hv0, hv1⟩ := bst_nn (b := b) HC0.out i j
                    have hcc0 := HC0.out i j
                    have hcc1 := HC1.out i j
                    have hq1 : zi - zj ≤ b := by have := hnr.1; omega
                    have hq2 : zj - zi ≤ b := by have := hnr.2; omega
                    have hc := fun W => hcost.out i j zi zj W hzi hzj
                    have HC := Aside0.mk hc
                    have HT := Aside0.mk ht
                    rw [← HV0.out] at hv0 hv1 ht
                    obtain ⟨s, hs⟩ : ∃ s : Int, s = v + c i j := ⟨_, rfl⟩
                    have hsum : IntKind.i64.wrap (v + c i j) = s := (IntWalk.i64_in _ (by omega)).trans hs.symm
                    obtain ⟨q, hq⟩ : ∃ q : Int, q = if s < 4611686018427387904 then s else 4611686018427387904 := ⟨_, rfl⟩
                    have hmn : (if s < 4611686018427387904 then s else 4611686018427387904) = q := hq.symm
                    have HQ := Aside0.mk (show q = tab b c i j by rw [ht, hq, hs]; omega)
                    have hsum3 := hsum
                    try simp only [Int.zero_add] at hsum3
                    clear hc ht hnr hv0 hv1 hcc0 hcc1 hs hq hzi hzj
                    generalize hcc : c i j = cc at HC hsum hsum3
                    clear HT hcc
                    go_wp2_with (first | (go_at_call 33; refine (HC.out _ (by omega) (by omega) HB1.out).mono ?_; rintro e w3 ⟨rfl, hb3⟩; have HN3 := Aside0.mk (Kd.R_below HN1.out hb3); have HR3 := Aside0.mk (Kd.R_below HR1.out hb3); have HX3 := Aside0.mk (blk_below HX1.out hb3); have HB3 := Aside0.mk (below_step HB1.out hb3); clear HN1 HR1 HX1 HB1 hb3 k2 k3; obtain ⟨hcz, hfz⟩ := Kd.R_celln 0 HN3.out zj hzl0 hzl))
                    go_roundg gj
                    case measure => omega
                    case rel =>
                      refine ⟨j + 1, by omega, ?_, ⟨?_⟩, ⟨?_⟩, ⟨?_⟩, ⟨?_⟩⟩
                      · first | rfl | (rw [show (((j + 1 : Nat)) : Int) = zj + 1 by have := HZJ.out; omega] <;> first | rfl | simp)
                      · have e1 := Kd.R_putn HN3.out zj q
                        have e2 : ((partL b c i m j).set zj.toNat 4611686018427387904).set zj.toNat q = partL b c i m (j + 1) := by
                          rw [show zj.toNat = j by have := HZJ.out; omega]
                          exact partL_set2 (by omega) _ _ HQ.out
                        rw [e2] at e1
                        exact e1
                      · exact Kd.R_far (p := ⟨gx, zj.toNat, none⟩) HR3.out (fun k hk => by show k ≠ gx; have hk' : k < B := hk; omega) _
                      · exact (Below.heap_setCell _ ⟨gx, zj.toNat, none⟩ _ _ (by show w.heap.size ≠ gx; omega)).trans HX3.out
                      · exact HB3.out.setCell (p := ⟨gx, zj.toNat, none⟩) (by show w.heap.size ≤ gx; omega) _
                  · first
                      | exact absurd (show near b i j by unfold near; omega) hnr
                      | (have ht : tab b c i j = 4611686018427387904 := by rw [tab_is, if_neg hnr]
                         have HT := Aside0.mk ht
                         clear ht k3
                         have HN2 := Aside0.mk (show Kd.R (Kd.int .i64) 3 W1 B (fun _ => True) (.slice (some ⟨gx, 0, none⟩) m c19) (partL b c i m (j + 1)) by
                           have := HN1.out
                           rw [show zj.toNat = j by have := HZJ.out; omega] at this
                           rwa [partL_set (by omega) _ HT.out.symm] at this)
                         by_cases hq1 : zi - zj ≤ b
                         · have hq2 : b < zj - zi := by unfold near at hnr; omega
                           clear hnr hzi hzj
                           go_wp2_with fail
                           go_roundg gj
                           case measure => omega
                           case rel => exact ⟨j + 1, by omega, by first | rfl | (rw [show (((j + 1 : Nat)) : Int) = zj + 1 by have := HZJ.out; omega] <;> first | rfl | simp), HN2, HR1, HX1, HB1⟩
                         · have hq2 : b < zi - zj := by omega
                           clear hnr hq1 hzi hzj
                           go_wp2_with fail
                           go_roundg gj
                           case measure => omega
                           case rel => exact ⟨j + 1, by omega, by first | rfl | (rw [show (((j + 1 : Nat)) : Int) = zj + 1 by have := HZJ.out; omega] <;> first | rfl | simp), HN2, HR1, HX1, HB1⟩)
set_option maxHeartbeats 8000000 in
set_option maxRecDepth 1000000 in
theorem least2_calls (n m : Nat) (b : Int) (c : Nat → Nat → Int) (p0 p1 : Nat) (w : World) (hn : 1 ≤ n) (hn32 : n ≤ 32) (hm : 1 ≤ m) (hm32 : m ≤ 32) (hb0 : 0 ≤ b) (hb32 : b ≤ 32) (hc0 : ∀ i j, 0 ≤ c i j) (hc1 : ∀ i j, c i j ≤ 1000000000)
    (hcost : Aside0 (∀ (i j : Nat) (zi zj : Int) (W : World), zi = (i : Int) → zj = (j : Int) → i < n → j < m → Below w.heap.size w W → Calls Try.prog 36 #[.int .i64 zi, .int .i64 zj, .pointer (some ⟨p0, 0, none⟩), .pointer (some ⟨p1, 0, none⟩)] W fun e w' => e = .returned (.int .i64 (c i j)) ∧ Below W.heap.size W w')) :
    Calls Try.prog 35 #[.agg #[.int .i64 (n : Int), .int .i64 (m : Int), .int .i64 b, .func (.func 36) #[] #[.pointer (some ⟨p0, 0, none⟩), .pointer (some ⟨p1, 0, none⟩)]]] w fun e w' => e = .returned (.int .i64 (tab b c (n - 1) (m - 1))) ∧ Below w.heap.size w w' := by
  have HC0 := Aside0.mk hc0
  have HC1 := Aside0.mk hc1
  clear hc0 hc1
  go_enter Try.func35, Try.ntmps35
  go_upto_region 1 with (fail)
  have HX := Aside0.mk (heap_alloc_new w (Obj.cells #[.int .i64 (n : Int), .int .i64 (m : Int), .int .i64 b, .func (.func 36) #[] #[.pointer (some ⟨p0, 0, none⟩), .pointer (some ⟨p1, 0, none⟩)]] 59))
  have HB := Aside0.mk ((Below.refl w.heap.size w).alloc (Nat.le_refl _) (Obj.cells #[.int .i64 (n : Int), .int .i64 (m : Int), .int .i64 b, .func (.func 36) #[] #[.pointer (some ⟨p0, 0, none⟩), .pointer (some ⟨p1, 0, none⟩)]] 59))
  generalize w.alloc (Obj.cells #[.int .i64 (n : Int), .int .i64 (m : Int), .int .i64 b, .func (.func 36) #[] #[.pointer (some ⟨p0, 0, none⟩), .pointer (some ⟨p1, 0, none⟩)]] 59) = W0 at HX HB ⊢
  have hlt := blk_lt HX.out
  have k1 := (blk_cell HX.out 1).trans rfl
  go_upto_region 2 with (first | ((with_reducible refine gate_dst (N := 10) rfl ?_); refine Kd.R_make (Kd.int .i64) _ 3 rfl (N := 10) rfl 22 _ _ rfl (m : Int) rfl rfl Try.underlying22 (.int .i64 0) 8 info_i rfl (by decide) (by omega) 0 (ok := fun _ => True) (okp := fun _ => True) rfl (fun _ hk => hk) trivial (by omega) (by rw [Int.toNat_natCast]; omega) (Below.refl _ _) (Nat.le_refl _) ?_; intro v10 w1 ho hb hg_ hnew_; clear hg_ hnew_; rw [Int.toNat_natCast] at ho; obtain ⟨A10, c10, e10⟩ := Kd.R_slice ho; rw [List.length_replicate] at e10; subst e10))
  have HX1 := Aside0.mk (blk_below HX.out hb)
  have HB1 := Aside0.mk (below_step HB.out hb)
  have HO := Aside0.mk (Kd.R_lower ho (show w.heap.size + 1 ≤ W0.heap.size from hlt))
  clear ho hb HX HB k1 hlt
  clear W0
  have k0 := (blk_cell HX1.out 0).trans rfl
  go_wp2_with fail
  clear k0
  go_loopg [3, 13] n (fun gk s3 s13 wx => ∃ (i : Nat) (A : Option Addr) (cp : Nat), i + gk = n ∧ s3 = .slice A m cp ∧ s13 = .int .i64 i ∧ Aside0 (Kd.R (Kd.int .i64) 3 wx (w.heap.size + 1) (fun _ => True) (.slice A m cp) (prevL b c m i)) ∧ Aside0 (wx.heap[w.heap.size]? = some (Obj.cells #[.int .i64 (n : Int), .int .i64 (m : Int), .int .i64 b, .func (.func 36) #[] #[.pointer (some ⟨p0, 0, none⟩), .pointer (some ⟨p1, 0, none⟩)]] 59 (0, 0))) ∧ Aside0 (Below w.heap.size w wx))
  case atStart => exact ⟨0, A10, c10, by omega, rfl, rfl, ⟨HO.out⟩, HX1, HB1⟩
  case round =>
    obtain ⟨i, A, cp, hin, rfl, rfl, HR, HXw, HBw⟩ := hrel
    clear HX1 HB1 HO
    obtain ⟨gy, cy, ey, gyb, gyl, -, -⟩ := Kd.R_form HR.out (by rw [prevL_len]; omega)
    injection ey with ea en ec
    subst ea
    subst ec
    clear en
    cases gk with
    | zero =>
      obtain rfl : i = n := by omega
      obtain ⟨i', rfl⟩ : ∃ i', i = i' + 1 := ⟨i - 1, by omega⟩
      have k1 := (blk_cell HXw.out 1).trans rfl
      have hw : IntKind.i64.wrap ((m : Int) - 1) = ((m - 1 : Nat) : Int) := (IntWalk.i64_in _ (by omega)).trans (by omega)
      have hlt : ((m - 1 : Nat) : Int) < (m : Int) := by omega
      obtain ⟨hx, hf⟩ := Kd.R_celln 0 HR.out ((m - 1 : Nat) : Int) (by omega) (by omega)
      rw [Int.toNat_natCast] at hx hf
      rw [show rdOf 0 (prevL b c m (i' + 1)) ((m - 1 : Nat) : Int) = tab b c i' (m - 1) from rowL_get (by omega)] at hx
      clear hn hn32 hm hm32 hb0 hb32 hin
      go_wp2_with fail
      go_ret
      exact ⟨by first | rfl | simp, HBw.out⟩
    | succ gi =>
      have hi : i < n := by omega
      have hi' : (i : Int) < (n : Int) := by omega
      obtain ⟨zi, hzi⟩ : ∃ zi : Int, zi = (i : Int) := ⟨_, rfl⟩
      rw [← hzi] at hi'
      rw [← hzi]
      have HZI := Aside0.mk hzi
      clear hzi
      have k1 := (blk_cell HXw.out 1).trans rfl
      go_upto_region 7 with (first | ((with_reducible refine gate_dst (N := 19) rfl ?_); refine Kd.R_make (Kd.int .i64) _ 3 rfl (N := 19) rfl 22 _ _ rfl (m : Int) rfl rfl Try.underlying22 (.int .i64 0) 8 info_i rfl (by decide) (by omega) 0 (ok := fun _ => True) (okp := fun _ => True) rfl (fun _ hk => hk) trivial (by omega) (by rw [Int.toNat_natCast]; omega) (Below.refl _ _) (Nat.le_refl _) ?_; intro v19 w2 ho hb hg_ hnew_; clear hg_ hnew_; rw [Int.toNat_natCast] at ho; obtain ⟨A19, c19, e19⟩ := Kd.R_slice ho; rw [List.length_replicate] at e19; subst e19))
      have HXo := Aside0.mk (blk_below HXw.out hb)
      have HBo := Aside0.mk (below_step HBw.out hb)
      have HRo := Aside0.mk (Kd.R_mono (Kd.R_below (Kd.R_bound HR.out) hb) (ok' := fun k => k < wr.heap.size) (fun k hk => hk.2.2.1))
      obtain ⟨gx, cx, ex, gxb, gxl, -, -⟩ := Kd.R_form ho (by simp; omega)
      injection ex with ea en ec
      subst ea
      subst ec
      have HN := Aside0.mk ho
      have hB : w.heap.size + 1 ≤ wr.heap.size := blk_lt HXw.out
      clear en ho hb k1 HR HXw HBw
      generalize hBs : wr.heap.size = B at HN HRo gxb gyl hB
      clear hBs wr
      go_wp2_with fail
      go_loopg [22] m (fun gk s22 wx => ∃ j : Nat, j + gk = m ∧ s22 = .int .i64 j ∧ Aside0 (Kd.R (Kd.int .i64) 3 wx B (fun _ => True) (.slice (some ⟨gx, 0, none⟩) m c19) (partL b c i m j)) ∧ Aside0 (Kd.R (Kd.int .i64) 3 wx (w.heap.size + 1) (fun k => k < B) (.slice (some ⟨gy, 0, none⟩) m cp) (prevL b c m i)) ∧ Aside0 (wx.heap[w.heap.size]? = some (Obj.cells #[.int .i64 (n : Int), .int .i64 (m : Int), .int .i64 b, .func (.func 36) #[] #[.pointer (some ⟨p0, 0, none⟩), .pointer (some ⟨p1, 0, none⟩)]] 59 (0, 0))) ∧ Aside0 (Below w.heap.size w wx))
      case atStart => exact ⟨0, by omega, rfl, ⟨HN.out⟩, HRo, HXo, HBo⟩
      case round =>
        obtain ⟨j, hjm, rfl, HN, HR, HX, HB⟩ := hrel
        clear HRo HXo HBo
        cases gk with
        | zero =>
          obtain rfl : j = m := by omega
          have hzw : IntKind.i64.wrap (zi + 1) = zi + 1 := IntWalk.i64_in _ (by have := HZI.out; omega)
          go_wp2_with fail
          go_roundg gi
          case measure => omega
          case rel => exact ⟨i + 1, _, _, by omega, rfl, by rw [show (((i + 1 : Nat)) : Int) = zi + 1 by have := HZI.out; omega] <;> first | rfl | simp, ⟨Kd.R_lower (by rw [show prevL b c j (i + 1) = partL b c i j j from (partL_end _ _ _ _).symm]; exact HN.out) hB⟩, HX, HB⟩
        | succ gj =>
          have hj : j < m := by omega
          obtain ⟨zj, hzj⟩ : ∃ zj : Int, zj = (j : Int) := ⟨_, rfl⟩
          rw [← hzj]
          have hj' : zj < (m : Int) := by omega
          have hj0 : 0 ≤ zj := by omega
          have hi0 : 0 ≤ zi := by have := HZI.out; omega
          have hm0 : (0 : Int) < (m : Int) := by omega
          have HZJ := Aside0.mk hzj
          have hpx : ∀ q : Nat, q < j → wr.cell? ⟨gx, q, none⟩ = some (.int .i64 (tab b c i q)) := fun q hq => by
            obtain ⟨hx, hf⟩ := Kd.R_celln 0 HN.out (q : Int) (by omega) (by omega)
            rw [Int.toNat_natCast, show rdOf 0 (partL b c i m j) (q : Int) = tab b c i q from partL_get hq] at hx
            exact hx
          have hpy : ∀ q p : Nat, q < m → i = p + 1 → wr.cell? ⟨gy, q, none⟩ = some (.int .i64 (tab b c p q)) := fun q p hq hp => by
            obtain ⟨hx, hf⟩ := Kd.R_celln 0 HR.out (q : Int) (by omega) (by omega)
            subst hp
            rw [Int.toNat_natCast, show rdOf 0 (prevL b c m (p + 1)) (q : Int) = tab b c p q from rowL_get hq] at hx
            exact hx
          obtain ⟨t0, h0⟩ : ∃ t0 : Int, t0 = if i = 0 ∧ j = 0 then 0 else 4611686018427387904 := ⟨_, rfl⟩
          obtain ⟨t1, h1⟩ : ∃ t1 : Int, t1 = if j = 0 then t0 else min t0 (tab b c i (j - 1)) := ⟨_, rfl⟩
          obtain ⟨v, h2⟩ : ∃ v : Int, v = if i = 0 then t1 else min t1 (min (tab b c (i - 1) j) (tab b c (i - 1) (j - 1))) := ⟨_, rfl⟩
          have HV0 := Aside0.mk (bst_is b c i j t0 t1 v h0 h1 h2)
          have H0 := Aside0.mk h0
          have H1 := Aside0.mk h1
          have H2 := Aside0.mk h2
          have HPX := Aside0.mk hpx
          have HPY := Aside0.mk hpy
          clear h0 h1 h2 hpx hpy hzj
          go_upto_region 11 with (fail)
          go_cut [30] (fun s30 wx => s30 = .bool (decide (i = 0 ∧ j = 0)) ∧ wx = wr)
          case first =>
            by_cases hi0 : i = 0
            · have hie : (zi == 0) = true := beq_iff_eq.mpr (by have := HZI.out; omega)
              by_cases hj0 : j = 0
              · have hje : (zj == 0) = true := beq_iff_eq.mpr (by have := HZJ.out; omega)
                have hd : decide (i = 0 ∧ j = 0) = true := decide_eq_true ⟨hi0, hj0⟩
                clear hi0 hj0
                go_wp2_with fail
                go_meet
                case rel => exact ⟨by rw [hd], rfl⟩
              · have hje : (zj == 0) = false := beq_eq_false_iff_ne.mpr (by have := HZJ.out; omega)
                have hd : decide (i = 0 ∧ j = 0) = false := decide_eq_false (fun h => hj0 h.2)
                clear hi0 hj0
                go_wp2_with fail
                go_meet
                case rel => exact ⟨by rw [hd], rfl⟩
            · have hie : (zi == 0) = false := beq_eq_false_iff_ne.mpr (by have := HZI.out; omega)
              have hd : decide (i = 0 ∧ j = 0) = false := decide_eq_false (fun h => hi0 h.1)
              clear hi0
              go_wp2_with fail
              go_meet
              case rel => exact ⟨by rw [hd], rfl⟩
          case rest =>
            obtain ⟨rfl, hwc⟩ := hcut
            subst hwc
            go_upto_if 30 with (fail)
            go_cut [7] (fun s7 wx => s7 = .int .i64 t0 ∧ wx = wc)
            case first =>
              have h0 := H0.out
              by_cases hd : i = 0 ∧ j = 0
              · rw [if_pos hd] at h0
                rw [decide_eq_true hd]
                clear hd
                go_wp2_with fail
                go_meet
                case rel => exact ⟨by rw [h0], rfl⟩
              · rw [if_neg hd] at h0
                rw [decide_eq_false hd]
                clear hd
                go_wp2_with fail
                go_meet
                case rel => exact ⟨by rw [h0], rfl⟩
            case rest =>
              obtain ⟨rfl, hwc⟩ := hcut
              subst hwc
              go_upto_if 32 with (fail)
              go_cut [7] (fun s7 wx => s7 = .int .i64 t1 ∧ wx = wc)
              case first =>
                have h1 := H1.out
                by_cases hj0 : j = 0
                · rw [if_pos hj0] at h1
                  have hjg : decide (0 < zj) = false := decide_eq_false (by have := HZJ.out; omega)
                  clear hj0
                  rw [hjg]
                  go_wp2_with fail
                  go_meet
                  case rel => exact ⟨by rw [h1], rfl⟩
                · rw [if_neg hj0] at h1
                  obtain ⟨zq, hzq⟩ : ∃ zq : Int, zq = zj - 1 := ⟨_, rfl⟩
                  have hw : IntKind.i64.wrap (zj - 1) = zq := (IntWalk.i64_in _ (by have := HZJ.out; omega)).trans hzq.symm
                  have hx := HPX.out (j - 1) (by omega)
                  have hqt : zq.toNat = j - 1 := by have := HZJ.out; omega
                  have hq0 : 0 ≤ zq := by have := HZJ.out; omega
                  have hqm : zq < (m : Int) := by have := HZJ.out; omega
                  have hjg : decide (0 < zj) = true := decide_eq_true (by have := HZJ.out; omega)
                  rw [← hqt] at hx h1
                  generalize tab b c i zq.toNat = u at hx h1
                  have hmn : (if u < t0 then u else t0) = t1 := by rw [h1]; split <;> omega
                  clear hj0 hqt hzq h1
                  rw [hjg]
                  go_wp2_with fail
                  go_meet
                  case rel => exact ⟨rfl, rfl⟩
              case rest =>
                obtain ⟨rfl, hwc⟩ := hcut
                subst hwc
                go_upto_if 41 with (fail)
                go_cut [7] (fun s7 wx => s7 = .int .i64 v ∧ Aside0 (Below wc.heap.size wc wx))
                case first =>
                  have h2 := H2.out
                  by_cases hi0 : i = 0
                  · rw [if_pos hi0] at h2
                    have hig : decide (0 < zi) = false := decide_eq_false (by have := HZI.out; omega)
                    clear hi0
                    rw [hig]
                    go_wp2_with fail
                    go_meet
                    case rel => exact ⟨by rw [h2], ⟨Below.refl _ _⟩⟩
                  · rw [if_neg hi0] at h2
                    obtain ⟨zq, hzq⟩ : ∃ zq : Int, zq = zj - 1 := ⟨_, rfl⟩
                    have hw : IntKind.i64.wrap (zj - 1) = zq := (IntWalk.i64_in _ (by have := HZJ.out; omega)).trans hzq.symm
                    obtain ⟨zm, hzm⟩ : ∃ zm : Int, zm = if 0 < zq then zq else 0 := ⟨_, rfl⟩
                    have hmx : (if 0 < zq then zq else 0) = zm := hzm.symm
                    have hmt : zm.toNat = j - 1 := by have := HZJ.out; split at hzm <;> omega
                    have hm0' : 0 ≤ zm := by split at hzm <;> omega
                    have hmm : zm < (m : Int) := by have := HZJ.out; split at hzm <;> omega
                    have hx := HPY.out j (i - 1) hj (by omega)
                    have hy := HPY.out (j - 1) (i - 1) (by omega) (by omega)
                    have hjt : zj.toNat = j := by have := HZJ.out; omega
                    have hig : decide (0 < zi) = true := decide_eq_true (by have := HZI.out; omega)
                    rw [← hmt, ← hjt] at h2
                    rw [← hjt] at hx
                    rw [← hmt] at hy
                    generalize tab b c (i - 1) zj.toNat = u1 at hx h2
                    generalize tab b c (i - 1) zm.toNat = u2 at hy h2
                    obtain ⟨u3, h3⟩ : ∃ u3 : Int, u3 = if u1 < t1 then u1 else t1 := ⟨_, rfl⟩
                    have hmn : (if u1 < t1 then u1 else t1) = u3 := h3.symm
                    have hmn2 : (if u2 < u3 then u2 else u3) = v := by rw [h2, h3]; split <;> split <;> omega
                    clear hi0 hzq hzm hmt hjt h2 h3
                    rw [hig]
                    go_upto_region 16 with (fail)
                    go_region_held3 (fun W => W.cell? ⟨gy, zj.toNat, none⟩ = some (.int .i64 u1) ∧ W.cell? ⟨gy, zm.toNat, none⟩ = some (.int .i64 u2)) (go_keep) (fail)
                    go_wp2_with fail
                    go_meet
                    case rel => exact ⟨rfl, ⟨below_drew (Below.refl _ _)⟩⟩
                case rest =>
                  obtain ⟨rfl, HWB⟩ := hcut
                  clear H0 H1 H2 HPX HPY
                  have hzj := HZJ.out
                  have hzi := HZI.out
                  have HNw := Aside0.mk (show Kd.R (Kd.int .i64) 3 (wc) B (fun _ => True) (.slice (some ⟨gx, 0, none⟩) m c19) (partL b c i m j) from Kd.R_below HN.out (HWB.out))
                  have HRw := Aside0.mk (show Kd.R (Kd.int .i64) 3 (wc) (w.heap.size + 1) (fun k => k < B) (.slice (some ⟨gy, 0, none⟩) m cp) (prevL b c m i) from Kd.R_below HR.out (HWB.out))
                  have HXw := Aside0.mk (blk_below (w1 := wc) HX.out (HWB.out))
                  have HBw := Aside0.mk (below_step (w2 := wc) HB.out (HWB.out))
                  clear HN HR HX HB
                  generalize (wc) = W at HNw HRw HXw HBw ⊢
                  obtain ⟨hcz, hfz⟩ := Kd.R_celln 0 HNw.out zj (by omega) (by omega)
                  have HN1 := Aside0.mk (Kd.R_putn HNw.out zj 4611686018427387904)
                  have HR1 := Aside0.mk (Kd.R_far (p := ⟨gx, zj.toNat, none⟩) HRw.out (fun k hk => by show k ≠ gx; have hk' : k < B := hk; omega) (.int .i64 4611686018427387904))
                  have HX1 := Aside0.mk ((Below.heap_setCell W ⟨gx, zj.toNat, none⟩ (.int .i64 4611686018427387904) _ (by show w.heap.size ≠ gx; omega)).trans HXw.out)
                  have HB1 := Aside0.mk (HBw.out.setCell (p := ⟨gx, zj.toNat, none⟩) (by show w.heap.size ≤ gx; omega) (.int .i64 4611686018427387904))
                  have hzl : zj < (m : Int) := by omega
                  have hzl0 : (0 : Int) ≤ zj := by omega
                  clear HNw HRw HXw HBw
                  clear hzi hzj
                  go_upto_region 18 with (fail)
                  have hzj := HZJ.out
                  have hzi := HZI.out
                  clear hcz hfz
                  generalize hW1 : W.setCell ⟨gx, _, none⟩ (.int .i64 4611686018427387904) = W1 at HN1 HR1 HX1 HB1 ⊢
                  clear hW1 W
                  have k2 := (blk_cell HX1.out 2).trans rfl
                  have k3 := (blk_cell HX1.out 3).trans rfl
                  have hs1 : IntKind.i64.wrap (zi - zj) = zi - zj := IntWalk.i64_in _ (by omega)
                  have hs2 : IntKind.i64.wrap (zj - zi) = zj - zi := IntWalk.i64_in _ (by omega)
                  have hzl1 : True := trivial
                  have hz1 : IntKind.i64.wrap (zj + 1) = zj + 1 := IntWalk.i64_in _ (by omega)
                  by_cases hnr : near b i j
                  · have ht : tab b c i j = min 4611686018427387904 (bst b c i j + c i j) := by rw [tab_is, if_pos hnr]
                    obtain ⟨hv0, hv1⟩ := bst_nn (b := b) HC0.out i j
                    have hcc0 := HC0.out i j
                    have hcc1 := HC1.out i j
                    have hq1 : zi - zj ≤ b := by have := hnr.1; omega
                    have hq2 : zj - zi ≤ b := by have := hnr.2; omega
                    have hc := fun W => hcost.out i j zi zj W hzi hzj
                    have HC := Aside0.mk hc
                    have HT := Aside0.mk ht
                    rw [← HV0.out] at hv0 hv1 ht
                    obtain ⟨s, hs⟩ : ∃ s : Int, s = v + c i j := ⟨_, rfl⟩
                    have hsum : IntKind.i64.wrap (v + c i j) = s := (IntWalk.i64_in _ (by omega)).trans hs.symm
                    obtain ⟨q, hq⟩ : ∃ q : Int, q = if s < 4611686018427387904 then s else 4611686018427387904 := ⟨_, rfl⟩
                    have hmn : (if s < 4611686018427387904 then s else 4611686018427387904) = q := hq.symm
                    have HQ := Aside0.mk (show q = tab b c i j by rw [ht, hq, hs]; omega)
                    have hsum3 := hsum
                    try simp only [Int.zero_add] at hsum3
                    clear hc ht hnr hv0 hv1 hcc0 hcc1 hs hq hzi hzj
                    generalize hcc : c i j = cc at HC hsum hsum3
                    clear HT hcc
                    go_wp2_with (first | (go_at_call 36; refine (HC.out _ (by omega) (by omega) HB1.out).mono ?_; rintro e w3 ⟨rfl, hb3⟩; have HN3 := Aside0.mk (Kd.R_below HN1.out hb3); have HR3 := Aside0.mk (Kd.R_below HR1.out hb3); have HX3 := Aside0.mk (blk_below HX1.out hb3); have HB3 := Aside0.mk (below_step HB1.out hb3); clear HN1 HR1 HX1 HB1 hb3 k2 k3; obtain ⟨hcz, hfz⟩ := Kd.R_celln 0 HN3.out zj hzl0 hzl))
                    go_roundg gj
                    case measure => omega
                    case rel =>
                      refine ⟨j + 1, by omega, ?_, ⟨?_⟩, ⟨?_⟩, ⟨?_⟩, ⟨?_⟩⟩
                      · first | rfl | (rw [show (((j + 1 : Nat)) : Int) = zj + 1 by have := HZJ.out; omega] <;> first | rfl | simp)
                      · have e1 := Kd.R_putn HN3.out zj q
                        have e2 : ((partL b c i m j).set zj.toNat 4611686018427387904).set zj.toNat q = partL b c i m (j + 1) := by
                          rw [show zj.toNat = j by have := HZJ.out; omega]
                          exact partL_set2 (by omega) _ _ HQ.out
                        rw [e2] at e1
                        exact e1
                      · exact Kd.R_far (p := ⟨gx, zj.toNat, none⟩) HR3.out (fun k hk => by show k ≠ gx; have hk' : k < B := hk; omega) _
                      · exact (Below.heap_setCell _ ⟨gx, zj.toNat, none⟩ _ _ (by show w.heap.size ≠ gx; omega)).trans HX3.out
                      · exact HB3.out.setCell (p := ⟨gx, zj.toNat, none⟩) (by show w.heap.size ≤ gx; omega) _
                  · first
                      | exact absurd (show near b i j by unfold near; omega) hnr
                      | (have ht : tab b c i j = 4611686018427387904 := by rw [tab_is, if_neg hnr]
                         have HT := Aside0.mk ht
                         clear ht k3
                         have HN2 := Aside0.mk (show Kd.R (Kd.int .i64) 3 W1 B (fun _ => True) (.slice (some ⟨gx, 0, none⟩) m c19) (partL b c i m (j + 1)) by
                           have := HN1.out
                           rw [show zj.toNat = j by have := HZJ.out; omega] at this
                           rwa [partL_set (by omega) _ HT.out.symm] at this)
                         by_cases hq1 : zi - zj ≤ b
                         · have hq2 : b < zj - zi := by unfold near at hnr; omega
                           clear hnr hzi hzj
                           go_wp2_with fail
                           go_roundg gj
                           case measure => omega
                           case rel => exact ⟨j + 1, by omega, by first | rfl | (rw [show (((j + 1 : Nat)) : Int) = zj + 1 by have := HZJ.out; omega] <;> first | rfl | simp), HN2, HR1, HX1, HB1⟩
                         · have hq2 : b < zi - zj := by omega
                           clear hnr hq1 hzi hzj
                           go_wp2_with fail
                           go_roundg gj
                           case measure => omega
                           case rel => exact ⟨j + 1, by omega, by first | rfl | (rw [show (((j + 1 : Nat)) : Int) = zj + 1 by have := HZJ.out; omega] <;> first | rfl | simp), HN2, HR1, HX1, HB1⟩)
end Go.Proofs.Ytodipcfbgnljeaa.X
