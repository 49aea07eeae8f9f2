/- This file proves what slices.Repeat makes of one number: a row of the call's own. -/
import Derived.Test.YtdnhfofmfpgmmaaXWords
import Derived.Test.YtdnhfofmfpgmmaaProg
import Derived.WalkSpells
import Derived.WalkKit
import Derived.RowKit3
import Derived.Outline
import Derived.OpenShut
import Derived.Laws.CopyOwn
import Derived.Deep.RegionHeld3
import Derived.IntWalk
import Derived.Deep.RegionLaw
set_option linter.unusedVariables false
set_option linter.unusedSimpArgs false
namespace Go.Proofs.Ytdnhfofmfpgmmaa.XJ
open Go.RowKit Go.Proofs.YtdnhfofmfpgmmaaW.PrintWords Go.Proofs.YtdnhfofmfpgmmaaW.PrintLast Go.Proofs.YtdnhfofmfpgmmaaW.PrintMore

theorem and_small (n : Int) (h0 : 0 ≤ n) (h1 : n ≤ 2000) : bits .and .u64 n 4294967295 = n := by
  have h : ∀ k : Fin 2001, bits .and .u64 (k.val : Int) 4294967295 = (k.val : Int) := by decide +kernel
  have := h ⟨n.toNat, by omega⟩
  rwa [show ((n.toNat : Nat) : Int) = n by omega] at this
theorem mul64_calls (n : Int) (h0 : 0 ≤ n) (h1 : n ≤ 2000) (w : World) :
    Calls Try.prog 75 #[.int .u64 1, .int .u64 n] w fun e w' => e = .returned (.tuple #[.int .u64 0, .int .u64 n]) ∧ w = w' := by
  have e1 := and_small n h0 h1
  have e2 : bits .and .u64 1 4294967295 = 1 := by decide
  have e3 : bits .and .u64 0 4294967295 = 0 := by decide
  have e4 : n / 4294967296 = 0 := by omega
  go_enter Try.func75, Try.ntmps75
  go_wp2_with fail
  go_ret2
  exact ⟨rfl, rfl⟩
theorem mul_calls (n : Int) (h0 : 0 ≤ n) (h1 : n ≤ 2000) (w : World) :
    Calls Try.prog 70 #[.int .u64 1, .int .u64 n] w fun e w' => e = .returned (.tuple #[.int .u64 0, .int .u64 n]) ∧ w = w' := by
  go_enter Try.func70, Try.ntmps70
  go_wp2_with (go_at_call 75; refine (mul64_calls n h0 h1 _).mono ?_; rintro e w' ⟨rfl, rfl⟩)
  go_ret2
  exact ⟨rfl, rfl⟩
theorem info_int : (Try.prog.info? 3).map (fun i => (i.zero, i.size, i.bytes)) = some (some (.int .i64 0), 1, 8) := by kernel_rfl
theorem size_int : (Try.prog.info? 3).map (·.size) = some 1 := by kernel_rfl
/-- A row of k copies of x, and zeros behind them. -/
def part (x : Int) (m k : Nat) : List Value := nums .i64 (List.replicate k x ++ List.replicate (m - k) 0)
theorem wrap_add {k j m : Nat} (h : k + j ≤ m) (hm : m ≤ 2000) : IntKind.i64.wrap ((k : Int) + (j : Int)) = ((k + j : Nat) : Int) := (IntWalk.i64_in _ (by omega)).trans (by omega)
theorem part_len (x : Int) {m k : Nat} (h : k ≤ m) : (part x m k).length = m := by unfold part nums; simp; omega
theorem part_get (x : Int) {m k j : Nat} (h : j < k) : (part x m k)[j]? = some (.int .i64 x) := by
  unfold part nums
  rw [List.getElem?_map, List.getElem?_append_left (by simpa using h), List.getElem?_replicate, if_pos h]
  rfl
theorem part_splice (x : Int) {m k j : Nat} (h : k + j ≤ m) : splice (part x m k) k (List.replicate j (.int .i64 x)) = part x m (k + j) := by
  unfold part splice nums
  rw [List.length_replicate, List.map_append, List.take_append_of_le_length (by simp), List.take_of_length_le (by simp), List.drop_append, List.drop_eq_nil_of_le (by simp), List.nil_append, List.map_append]
  simp only [List.map_replicate, List.length_replicate, List.drop_replicate]
  rw [← List.append_assoc, List.replicate_append_replicate]
  congr 2
  omega
theorem part_all (x : Int) (m : Nat) : part x m m = nums .i64 (List.replicate m x) := by unfold part; simp
theorem part_zero (x : Int) (m : Nat) : part x m 0 = nums .i64 (List.replicate m 0) := by unfold part; simp
set_option maxRecDepth 100000 in
theorem make_run (m : Nat) (hm : m ≤ 2000) (W : World) : (Instr.makeSlice 22 (.int .i64 (m : Int)) (.int .i64 (m : Int))).run Try.prog W = .ok (.slice (some ⟨W.heap.size, 0, none⟩) m m) (W.alloc (.cells (nums .i64 (List.replicate m 0)).toArray 3)) := by
  have := print_make (P := Try.prog) 22 3 .i64 8 Try.underlying22 info_int (by decide) m (by omega) W
  rw [this]
  congr 3
  apply Array.ext
  · simp [madeCells, nums]
  · intro i h1 h2
    simp [madeCells, nums, Nat.mod_one]
/-- The row of a call's own is whole. -/
theorem own_row (w : World) (base g : Nat) (hb : base ≤ g) (xs : List Int) (m : Nat) (hm : xs.length = m) (hl : m ≤ 1000000) (h : w.heap[g]? = some (.cells (nums .i64 xs).toArray 3 (0, 0))) :
    Kd.R (Kd.int .i64) 3 w base (fun _ => True) (.slice (some ⟨g, 0, none⟩) m m) xs := by
  subst hm
  refine Kd.R_of_own (e := 3) ⟨by simp [encs], .inr ⟨g, xs.length, _, rfl, hb, h, Nat.le_refl _, by unfold maxLen; omega, by simp [nums], ?_⟩⟩ (fun _ _ => trivial)
  rw [Nat.mul_one, List.take_of_length_le (by simp [nums])]
  rfl
theorem one_cell {w : World} {ad : Addr} {x : Int} (h : w.cell? (ad.add 0) = some (.int .i64 x)) : ∀ (j : Nat) (v : Value), [Value.int .i64 x][j]? = some v → w.cell? (ad.add j) = some v := by
  intro j v hj
  match j, hj with
  | 0, hj => rw [← hj]; exact h
  | j + 1, hj => simp at hj
theorem one_one (x : Int) : ∀ v ∈ [Value.int .i64 x], v.oneCell' = true := fun v hv => by rw [List.mem_singleton.1 hv]; rfl
theorem rep_one (x : Int) (j : Nat) : ∀ v ∈ List.replicate j (Value.int .i64 x), v.oneCell' = true := fun v hv => by rw [(List.mem_replicate.1 hv).2]; rfl
theorem rep_cells {w : World} {g m k j : Nat} {x : Int} {t : TypeId} (h : w.heap[g]? = some (.cells (part x m k).toArray t (0, 0))) (hk : k ≤ m) (hj : j ≤ k) :
    ∀ (i : Nat) (v : Value), (List.replicate j (Value.int .i64 x))[i]? = some v → w.cell? ((⟨g, 0, none⟩ : Addr).add i) = some v := by
  intro i v hi
  rw [List.getElem?_replicate] at hi
  by_cases c : i < j
  · rw [if_pos c] at hi
    rw [add_plain, ← hi]
    exact (blk_cell h i).trans (by rw [List.getElem?_toArray]; exact part_get x (by omega))
  · rw [if_neg c] at hi
    cases hi
set_option maxHeartbeats 4000000 in
set_option maxRecDepth 100000 in
theorem repeat_zero (x : Int) (ad : Addr) (c0 : Nat) (w : World) :
    Calls Try.prog 60 #[.slice (some ad) 1 c0, .int .i64 0] w fun e w' => ∃ v : Value, e = .returned v ∧ Kd.R (Kd.int .i64) 3 w' w.heap.size (fun _ => True) v [] ∧ Below w.heap.size w w' := by
  have hmk := make_run 0 (by omega)
  have hcn := fun (w : World) (g : Nat) => run_copy_none (P := Try.prog) w 22 22 3 3 (some ⟨g, 0, none⟩) (some ad) 0 0 1 c0 Try.underlying22 size_int (by simp)
  rw [show ((0 : Nat) : Int) = 0 from rfl] at hmk
  go_enter Try.func60, Try.ntmps60
  go_wp2_with (go_at_call 70; refine (mul_calls 0 (by omega) (by omega) _).mono ?_; rintro e w' ⟨rfl, rfl⟩)
  go_loop [8] (fun v => v = .int .i64 0) (fun _ => 0)
  case atStart => rfl
  case round =>
    subst hrel
    go_wp2
    go_ret
    exact ⟨_, rfl, own_row _ _ _ (Nat.le_refl _) [] 0 rfl (by omega) (heap_alloc_new w _), (Below.refl _ _).alloc (Nat.le_refl _) _⟩
set_option maxHeartbeats 4000000 in
set_option maxRecDepth 100000 in
theorem repeat_more (x : Int) (ad : Addr) (c0 : Nat) (m : Nat) (h1 : 1 ≤ m) (hm : m ≤ 2000) (w : World) (hc : w.cell? (ad.add 0) = some (.int .i64 x)) :
    Calls Try.prog 60 #[.slice (some ad) 1 c0, .int .i64 (m : Int)] w fun e w' => ∃ v : Value, e = .returned v ∧ Kd.R (Kd.int .i64) 3 w' w.heap.size (fun _ => True) v (List.replicate m x) ∧ Below w.heap.size w w' := by
  have hmk := make_run m hm
  have HC := Aside0.mk hc
  clear hc
  go_enter Try.func60, Try.ntmps60
  go_wp2_with (first | (go_at_call 70; refine (mul_calls (m : Int) (by omega) (by omega) _).mono ?_; rintro e w' ⟨rfl, rfl⟩) | ((refine wpList_copy_splice (o := ⟨some 33, _, _, _, _, _⟩) rfl (.tmp 31) (.tmp 32) 22 22 rfl 3 Try.underlying22 size_int _ _ m m 1 c0 rfl rfl w.heap.size 0 (part x m 0) 3 ?hg [.int .i64 x] ?hn ?hpos ?hfit ?h1 w.heap.size w ?hb (Nat.le_refl _) ?_); (case hg => rw [part_zero]; exact heap_alloc_new w _); (case hn => exact (Nat.min_eq_left h1).symm); (case hpos => exact fun _ => ⟨rfl, ad, rfl, one_cell (pw_cell_below ((Below.refl _ _).alloc (Nat.le_refl _) _) HC.out)⟩); (case hfit => rw [part_len x (by omega)]; simp; omega); (case h1 => exact one_one x); (case hb => exact (Below.refl _ _).alloc (Nat.le_refl _) _); intro w2 HG2 hB2; have HB2 := Aside0.mk hB2; clear hB2))
  have h0 : w2.heap[w.heap.size]? = some (.cells (part x m 1).toArray 3 (0, 0)) := by
    have := HG2.out
    rwa [show ([.int .i64 x] : List Value) = List.replicate 1 (.int .i64 x) from rfl, part_splice x (show 0 + 1 ≤ m by omega)] at this
  have H0 := Aside0.mk h0
  clear h0 HG2
  go_loopw [8] (fun v wr => ∃ k : Nat, 1 ≤ k ∧ k ≤ m ∧ v = .int .i64 k ∧ Aside0 (wr.heap[w.heap.size]? = some (.cells (part x m k).toArray 3 (0, 0))) ∧ Aside0 (Below w.heap.size w wr)) (fun v _ => m - (intOf v).toNat)
  case atStart => exact ⟨1, Nat.le_refl _, h1, rfl, H0, HB2⟩
  case round =>
    clear H0 HB2
    obtain ⟨k, hk1, hk2, rfl, HG, HB⟩ := hrel
    by_cases hlt : k < m
    · have hlt' : (k : Int) < (m : Int) := by omega
      have hne : ¬ m = k := by omega
      have h0k : 0 ≤ (k : Int) := by omega
      obtain ⟨j, hj⟩ : ∃ j, j = min k (m - k) := ⟨_, rfl⟩
      have hj1 : 1 ≤ j := by omega
      have hj2 : k + j ≤ m := by omega
      have hj3 : j ≤ k := by omega
      have HJ := Aside0.mk hj
      clear hj
      go_wp2
      go_region_law ((refine step_copy_splice rfl (.tmp 41) (.tmp 44) 22 22 rfl 3 Try.underlying22 size_int (some ⟨w.heap.size, k, none⟩) (some ⟨w.heap.size, 0, none⟩) (m - k) (m - k) k m ?hd ?hs w.heap.size k (part x m k) 3 ?hg (List.replicate j (.int .i64 x)) ?hn ?hpos ?hfit ?h1 w.heap.size w ?hb (Nat.le_refl _) ?_); (case hd => go_simp); (case hs => go_simp); (case hg => exact HG.out); (case hn => rw [List.length_replicate]; exact HJ.out); (case hpos => exact fun _ => ⟨rfl, ⟨w.heap.size, 0, none⟩, rfl, rep_cells HG.out (by omega) hj3⟩); (case hfit => rw [part_len x (by omega), List.length_replicate]; exact hj2); (case h1 => exact rep_one x j); (case hb => exact below_drew HB.out); intro w4 hg4 hb4; have HG4 := Aside0.mk hg4.out; have HB4 := Aside0.mk hb4; clear hg4 hb4)
      all_goals
        simp only [List.getElem_toArray, List.getElem_cons_succ, List.getElem_cons_zero]
        go_simp
        rw [wrap_add hj2 hm]
        go_wp2
        go_roundw
        case rel => exact ⟨k + j, by omega, hj2, rfl, ⟨by rw [← part_splice x hj2]; exact HG4.out⟩, HB4⟩
        case measure => simp [intOf]; omega
    · obtain rfl : k = m := by omega
      go_wp2
      go_ret
      exact ⟨_, rfl, own_row _ _ _ (Nat.le_refl _) _ _ (List.length_replicate ..) (by omega) (by rw [← part_all]; exact HG.out), HB.out⟩
theorem repeat_calls (x : Int) (ad : Addr) (c0 : Nat) (m : Nat) (hm : m ≤ 2000) (w : World) (hc : w.cell? (ad.add 0) = some (.int .i64 x)) :
    Calls Try.prog 60 #[.slice (some ad) 1 c0, .int .i64 (m : Int)] w fun e w' => ∃ v : Value, e = .returned v ∧ Kd.R (Kd.int .i64) 3 w' w.heap.size (fun _ => True) v (List.replicate m x) ∧ Below w.heap.size w w' := by
  rcases Nat.eq_zero_or_pos m with rfl | h
  · exact repeat_zero x ad c0 w
  · exact repeat_more x ad c0 m h hm w hc
end Go.Proofs.Ytdnhfofmfpgmmaa.XJ
