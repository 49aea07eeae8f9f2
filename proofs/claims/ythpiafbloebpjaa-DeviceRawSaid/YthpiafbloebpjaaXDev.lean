/- This file proves what device.padded makes of bytes: a row of its own with zeros behind. -/
import Derived.Test.YthpiafbloebpjaaXWords
import Derived.Test.YthpiafbloebpjaaProg
import Derived.WalkSpells
import Derived.WalkKit
import Derived.RowKit3
import Derived.Outline
import Derived.OpenShut
import Derived.Laws.CopyOwn
import Derived.Deep.RegionHeld3
import Derived.IntWalk
set_option linter.unusedVariables false
set_option linter.unusedSimpArgs false
namespace Go.Proofs.Ythpiafbloebpjaa.XD
open Go.RowKit Go.Proofs.YthpiafbloebpjaaW.PrintWords Go.Proofs.YthpiafbloebpjaaW.PrintLast Go.Proofs.YthpiafbloebpjaaW.PrintMore

theorem info_u8 : (Try.prog.info? 5).map (fun i => (i.zero, i.size, i.bytes)) = some (some (.int .u8 0), 1, 1) := by kernel_rfl
theorem size_u8 : (Try.prog.info? 5).map (·.size) = some 1 := by kernel_rfl
theorem make_run8 (m : Nat) (hm : m ≤ 140737488351232) (W : World) : (Instr.makeSlice 26 (.int .i64 (m : Int)) (.int .i64 (m : Int))).run Try.prog W = .ok (.slice (some ⟨W.heap.size, 0, none⟩) m m) (W.alloc (.cells (nums .u8 (List.replicate m 0)).toArray 5)) := by
  have := print_make (P := Try.prog) 26 5 .u8 1 Try.underlying26 info_u8 (by decide) m (by omega) W
  rw [this]
  congr 3
  apply Array.ext
  · simp [madeCells, nums]
  · intro i h1 h2
    simp [madeCells, nums, Nat.mod_one]
/-- So many bytes of the list, and zeros behind them. -/
def padl (l : List Int) (m : Nat) : List Int := l.take m ++ List.replicate (m - l.length) 0
theorem padl_len (l : List Int) (m : Nat) : (padl l m).length = m := by unfold padl; simp; omega
theorem pad_splice (l : List Int) (m : Nat) : splice (nums .u8 (List.replicate m 0)) 0 (nums .u8 (l.take m)) = nums .u8 (padl l m) := by
  unfold splice padl nums
  simp only [List.take_zero, List.nil_append, Nat.zero_add, List.length_map, List.length_take, List.map_append, List.map_replicate, List.drop_replicate]
  congr 2
  omega
theorem nums_one (k : IntKind) (l : List Int) : ∀ v ∈ nums k l, v.oneCell' = true := fun v hv => by
  unfold nums at hv
  obtain ⟨x, _, rfl⟩ := List.mem_map.1 hv
  rfl
theorem own_row8 (w : World) (base g : Nat) (hb : base ≤ g) (xs : List Int) (m : Nat) (hm : xs.length = m) (hl : m ≤ 140737488351232) (h : w.heap[g]? = some (.cells (nums .u8 xs).toArray 5 (0, 0))) :
    Kd.R (Kd.int .u8) 5 w base (fun _ => True) (.slice (some ⟨g, 0, none⟩) m m) xs := by
  subst hm
  refine Kd.R_of_own (e := 5) ⟨by simp [encs], .inr ⟨g, xs.length, _, rfl, hb, h, Nat.le_refl _, by unfold maxLen; omega, by simp [nums], ?_⟩⟩ (fun _ _ => trivial)
  rw [Nat.mul_one, List.take_of_length_le (by simp [nums])]
  rfl
/-- The cells of a row of bytes that is read. -/
theorem src_cells {w : World} {A0 : Option Addr} {l : List Int} (h : Kd.C (Kd.int .u8) w A0 l.length l) (m : Nat) (hp : 0 < (nums .u8 (l.take m)).length) :
    ∃ ad, A0 = some ad ∧ ∀ j v, (nums .u8 (l.take m))[j]? = some v → w.cell? (ad.add j) = some v := by
  have hl : 0 < l.length := by
    unfold nums at hp
    rw [List.length_map, List.length_take] at hp
    omega
  obtain ⟨ad, e, _⟩ := h.2.2 hl
  refine ⟨ad, e, fun j v hj => ?_⟩
  unfold nums at hj
  rw [List.getElem?_map] at hj
  obtain ⟨x, hx, rfl⟩ := Option.map_eq_some_iff.1 hj
  have hjm : j < m ∧ l[j]? = some x := by
    rw [List.getElem?_take] at hx
    split at hx
    · exact ⟨by assumption, hx⟩
    · cases hx
  have hjl : j < l.length := (List.getElem?_eq_some_iff.1 hjm.2).1
  obtain ⟨ad', e', hc⟩ := Kd.at_int h (j : Int) (by omega) (by omega)
  rw [e] at e'
  cases e'
  rw [Int.toNat_natCast] at hc
  rw [hc]
  have : rd l (j : Int) = x := by
    unfold rd
    rw [Int.toNat_natCast, List.getD_eq_getElem?_getD, hjm.2]
    rfl
  rw [this]
set_option maxHeartbeats 4000000 in
set_option maxRecDepth 100000 in
theorem padded_calls (A0 : Option Addr) (c0 : Nat) (l0 : List Int) (m : Nat) (hm : m ≤ 140737488351232) (w : World) (hr0 : Kd.C (Kd.int .u8) w A0 l0.length l0) :
    Calls Try.prog 24 #[.slice A0 l0.length c0, .int .i64 (m : Int)] w fun e w' => ∃ v : Value, e = .returned v ∧ Kd.R (Kd.int .u8) 5 w' w.heap.size (fun _ => True) v (padl l0 m) ∧ Below w.heap.size w w' := by
  have hmk := make_run8 m hm
  have HR := Aside0.mk hr0
  clear hr0
  go_enter Try.func24, Try.ntmps24
  go_wp2_with ((refine wpList_copy_splice (o := ⟨some 10, _, _, _, _, _⟩) rfl (.tmp 8) (.tmp 9) 26 26 rfl 5 Try.underlying26 size_u8 _ A0 m m l0.length c0 rfl rfl w.heap.size 0 (nums .u8 (List.replicate m 0)) 5 ?hg (nums .u8 (l0.take m)) ?hn ?hpos ?hfit ?h1 w.heap.size w ?hb (Nat.le_refl _) ?_); (case hg => exact heap_alloc_new w _); (case hn => unfold nums; rw [List.length_map, List.length_take]; exact Nat.min_comm _ _); (case hpos => exact fun hp => ⟨rfl, src_cells (Kd.C_below HR.out ((Below.refl _ _).alloc (Nat.le_refl _) _)) m hp⟩); (case hfit => unfold nums; simp; omega); (case h1 => exact nums_one _ _); (case hb => exact (Below.refl _ _).alloc (Nat.le_refl _) _); intro w2 HG2 hB2; have HG := Aside0.mk (show w2.heap[w.heap.size]? = some (.cells (nums .u8 (padl l0 m)).toArray 5 (0, 0)) by rw [← pad_splice]; exact HG2.out); have HB2 := Aside0.mk hB2; clear hB2 HG2)
  go_ret
  exact ⟨_, rfl, own_row8 _ _ _ (Nat.le_refl _) _ _ (padl_len _ _) hm HG.out, HB2.out⟩
end Go.Proofs.Ythpiafbloebpjaa.XD
