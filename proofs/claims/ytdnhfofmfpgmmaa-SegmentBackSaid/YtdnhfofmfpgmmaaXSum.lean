/- This file proves what the checksum of package codec computes: an array of 256 words is made by one function, laid into a variable by the other, and read byte by byte. -/
import Derived.Test.YtdnhfofmfpgmmaaXWords
import Derived.Test.YtdnhfofmfpgmmaaProg
import Derived.Deep.WholeRow
import Derived.Deep.LoopGhost
import Derived.Laws.Tables
import Derived.Laws.ResultCell
import Derived.WalkKit
import Derived.RowKit3
import Derived.Outline
import Derived.OpenShut
set_option linter.unusedVariables false
set_option linter.unusedSimpArgs false
namespace Go.Proofs.Ytdnhfofmfpgmmaa.X
open Go.RowKit Go.Proofs.YtdnhfofmfpgmmaaW.PrintWords Go.Proofs.YtdnhfofmfpgmmaaW.PrintLast Go.Proofs.YtdnhfofmfpgmmaaW.PrintMore

/-- One step of the register. -/
def crcStep (x : Int) : Int := if Go.bits .and .u32 x 1 = 1 then Go.bits .xor .u32 (x / 2) 3988292384 else x / 2
def crcIter : Nat → Int → Int
  | 0, x => x
  | n + 1, x => crcIter n (crcStep x)
def crcT (i : Nat) : Int := crcIter 8 (i : Int)
/-- The array behind i rounds. -/
def tabAt (i : Nat) : Array Value := Array.ofFn (n := 256) fun j => .int .u32 (if j.val < i then crcT j.val else 0)
theorem tabAt_size (i : Nat) : (tabAt i).size = 256 := by simp [tabAt]
theorem tabAt_one (i : Nat) : (tabAt i).all (·.oneCell') = true := by
  rw [Array.all_eq_true]
  intro j hj
  simp [tabAt, Value.oneCell']
theorem tabAt_set (i : Nat) (hi : i < 256) : (tabAt i).setIfInBounds i (.int .u32 (crcT i)) = tabAt (i + 1) := by
  apply Array.ext
  · simp [tabAt]
  · intro j h1 h2
    rw [Array.getElem_setIfInBounds (by simpa [tabAt] using h2)]
    by_cases h : i = j
    · subst h
      simp [tabAt]
    · rw [if_neg h]
      simp only [tabAt, Array.getElem_ofFn]
      congr 1
      by_cases h' : j < i
      · rw [if_pos h', if_pos (by omega)]
      · rw [if_neg h', if_neg (by omega)]
theorem tab_info : (Try.prog.info? 103).map (fun i => (i.zero, i.size)) = some (some (.agg (tabAt 0)), 256) := by kernel_rfl
theorem below_setRow {B : Nat} {w W : World} (h : Below B w W) {g : Nat} (hg : B ≤ g) (cs : Array Value) : Below B w (W.setRow g cs) :=
  ⟨h.os, h.tape, h.output, by rw [size_setRow]; exact h.size, fun i hi => (setRow_other W g i cs (by omega)).trans (h.block i hi)⟩
set_option maxHeartbeats 4000000 in
set_option maxRecDepth 1000000 in
theorem table_calls (w : World) : Calls Try.prog 62 #[] w fun e w' => e = .returned (.agg (tabAt 256)) ∧ Below w.heap.size w w' := by
  obtain ⟨hz, hsz⟩ := zero_of_info tab_info
  go_enter Try.func62, Try.ntmps62
  go_wp2_with fail
  have hb1 : ((w.alloc (Obj.cells (tabAt 0) 103)).alloc (Obj.cells (tabAt 0) 103)).heap[w.heap.size + 1]? = some (.cells (tabAt 0) 103 (0, 0)) := heap_alloc2_new w _ _
  have hb0 : ((w.alloc (Obj.cells (tabAt 0) 103)).alloc (Obj.cells (tabAt 0) 103)).heap[w.heap.size]? = some (.cells (tabAt 0) 103 (0, 0)) := heap_alloc2_old w _ _
  have hbw : Below w.heap.size w ((w.alloc (Obj.cells (tabAt 0) 103)).alloc (Obj.cells (tabAt 0) 103)) := ((Below.refl _ _).alloc (Nat.le_refl _) _).alloc (by simp) _
  have HB1 := Aside0.mk hb1
  have HB0 := Aside0.mk hb0
  have HBW := Aside0.mk hbw
  clear hb1 hb0 hbw
  go_loopg [5] 256 (fun g s5 wx => ∃ i : Nat, i + g = 256 ∧ s5 = .int .i64 i ∧ Aside0 (wx.heap[w.heap.size + 1]? = some (.cells (tabAt i) 103 (0, 0))) ∧ Aside0 (wx.heap[w.heap.size]? = some (.cells (tabAt 0) 103 (0, 0))) ∧ Aside0 (Below w.heap.size w wx))
  case atStart => exact ⟨0, rfl, rfl, HB1, HB0, HBW⟩
  case round =>
    obtain ⟨i, hig, rfl, HX1, HX0, HXW⟩ := hrel
    clear HB1 HB0 HBW
    cases gk with
    | zero =>
      obtain rfl : i = 256 := by omega
      go_wp2_with (first | (refine wpList_load_row rfl 103 _ rfl (w.heap.size + 1) rfl 103 (tabAt 256) (0, 0) _ HX1.out Try.underlying103 rfl (by rw [tabAt_size]; exact hsz) ?_) | (refine wpList_store_row rfl 103 _ _ rfl w.heap.size (tabAt 256) rfl rfl 103 (tabAt 0) HX0.out (by rw [tabAt_size]; exact hsz) (by rw [tabAt_size, tabAt_size]) (tabAt_one 256) ?_))
      refine bodyPost_ret (v := .agg (tabAt 256)) ?_ rfl ⟨rfl, ?_⟩
      · exact results_cell_row rfl _ _ w.heap.size 103 (tabAt 256) (0, 0) _ rfl (setRow_heap wr w.heap.size (tabAt 0) (tabAt 256) 103 (0, 0) HX0.out) Try.underlying103 rfl (by rw [tabAt_size]; exact hsz)
      · exact below_setRow HXW.out (Nat.le_refl _) (tabAt 256)
    | succ g =>
      have hi : i < 256 := by omega
      go_wp2_with fail
      go_loopg [10, 3] 8 (fun gq s10 s3 wx => ∃ (k : Nat) (x : Int), k + gq = 8 ∧ s10 = .int .i64 k ∧ s3 = .int .u32 x ∧ Aside0 (crcIter gq x = crcT i) ∧ wx = wr)
      case atStart => exact ⟨0, (i : Int), rfl, rfl, rfl, ⟨rfl⟩, rfl⟩
      case round =>
        obtain ⟨k, x, hk, rfl, rfl, HC, rfl⟩ := hrel
        cases gk with
        | zero =>
          obtain rfl : k = 8 := by omega
          have hcell : wr.cell? ⟨w.heap.size + 1, i, none⟩ = some (.int .u32 0) := (cell_of_row wr _ i _ _ _ HX1.out).trans (by simp [tabAt, hi])
          have hfr : wr.frozen? ⟨w.heap.size + 1, i, none⟩ = false := frozen_of_row wr _ i _ _ HX1.out
          have hi256 : (i : Int) < 256 := by omega
          go_wp2_with fail
          go_roundg g
          case measure => omega
          case rel =>
            have hx : x = crcT i := HC.out
            refine ⟨i + 1, by omega, by first | rfl | simp, ⟨?_⟩, ⟨?_⟩, ⟨?_⟩⟩
            · rw [heap_setCell_same _ _ i _ _ _ HX1.out, hx, tabAt_set i hi]
            · rw [heap_setCell_other _ _ _ _ (by simp)]
              exact HX0.out
            · exact Below.setCell HXW.out (by simp) _
        | succ gq =>
          have hk8 : k < 8 := by omega
          by_cases hodd : Go.bits .and .u32 x 1 = 1
          · go_wp2_with fail
            go_roundg gq
            case measure => omega
            case rel => exact ⟨k + 1, _, by omega, by first | rfl | simp, rfl, ⟨by have h := HC.out; rw [crcIter, crcStep, if_pos hodd] at h; exact h⟩, rfl⟩
          · go_wp2_with fail
            go_roundg gq
            case measure => omega
            case rel => exact ⟨k + 1, _, by omega, by first | rfl | simp, rfl, ⟨by have h := HC.out; rw [crcIter, crcStep, if_neg hodd] at h; exact h⟩, rfl⟩
/-- The register behind some bytes. -/
def crcFrom : Int → List Int → Int
  | x, [] => x
  | x, c :: l => crcFrom (Go.bits .xor .u32 (crcT (Go.bits .xor .u8 (x % 256) c).toNat) (x / 256)) l
/-- The checksum of some bytes. -/
def crc (l : List Int) : Int := Go.bits .xor .u32 4294967295 (crcFrom 4294967295 l)
theorem bits_u8 (op : BinOp) (x y : Int) : 0 ≤ Go.bits op .u8 x y ∧ Go.bits op .u8 x y < 256 := by
  have h : (Lit.int .u8 (Go.bits op .u8 x y)).wf = true := wf_bits op .u8 x y
  simp [Lit.wf, IntKind.min, IntKind.max, IntKind.signed, IntKind.bits] at h
  omega
theorem tabAt_get (j : Nat) (hj : j < 256) : (tabAt 256)[j]? = some (.int .u32 (crcT j)) := by
  simp [tabAt, hj]
set_option maxHeartbeats 4000000 in
set_option maxRecDepth 1000000 in
theorem sum_calls (A0 : Option Addr) (c0 : Nat) (l0 : List Int) (w : World) (hr0 : Kd.C (Kd.int .u8) w A0 l0.length l0) (hc0 : l0.length ≤ c0) :
    Calls Try.prog 47 #[.slice A0 l0.length c0] w fun e w' => e = .returned (.int .u32 (crc l0)) ∧ Below w.heap.size w w' := by
  obtain ⟨hz, hsz⟩ := zero_of_info tab_info
  go_enter Try.func47, Try.ntmps47
  go_wp2_with (first | (go_at_call 62; refine (table_calls _).mono ?_; rintro e w1 ⟨rfl, hb1⟩) | (refine wpList_store_row rfl 103 _ _ rfl w1.heap.size (tabAt 256) rfl rfl 103 (tabAt 0) (heap_alloc_new w1 _) (by rw [tabAt_size]; exact hsz) (by rw [tabAt_size, tabAt_size]) (tabAt_one 256) ?_; rw [World.setRow_alloc_new]))
  have HG := Aside0.mk (heap_alloc_new w1 (.cells (tabAt 256) 103))
  have HW := Aside0.mk (hb1.alloc hb1.size (.cells (tabAt 256) 103))
  generalize hW : w1.alloc (Obj.cells (tabAt 256) 103) = W at *
  clear hW hb1
  have HR := Aside0.mk (Kd.C_below hr0 HW.out)
  have HC0 := Aside0.mk hc0
  have hmx : l0.length ≤ 9223372036854775807 := (Kd.reads_of_C (enc := Value.int .u8) (d := (0 : Int)) hr0).2.1
  clear hr0 hc0
  go_loopg [10, 4] l0.length (fun g s10 s4 wx => ∃ (i : Nat) (x : Int), i + g = l0.length ∧ s10 = .int .i64 i ∧ s4 = .int .u32 x ∧ Aside0 (crcFrom x (l0.drop i) = crcFrom 4294967295 l0) ∧ wx = W)
  case atStart => exact ⟨0, 4294967295, by omega, rfl, rfl, ⟨by rw [List.drop_zero]⟩, rfl⟩
  case round =>
    obtain ⟨i, x, hi, rfl, rfl, HC, rfl⟩ := hrel
    cases gk with
    | zero =>
      obtain rfl : i = l0.length := by omega
      go_wp2_with fail
      go_ret
      refine ⟨?_, HW.out⟩
      have h := HC.out
      rw [List.drop_eq_nil_of_le (Nat.le_refl _), crcFrom] at h
      rw [h]
      rfl
    | succ g =>
      have hlt : i < l0.length := by omega
      have hlt' : (i : Int) < (l0.length : Int) := by omega
      obtain ⟨ad, e, hx⟩ := Kd.at_int HR.out (i : Int) (by omega) hlt'
      cases e
      rw [Int.toNat_natCast] at hx
      obtain ⟨b0, b1⟩ := bits_u8 .xor (x % 256) (rd l0 (i : Int))
      have hcell : wr.cell? ⟨w1.heap.size, (Go.bits .xor .u8 (x % 256) (rd l0 (i : Int))).toNat, none⟩ = some (.int .u32 (crcT (Go.bits .xor .u8 (x % 256) (rd l0 (i : Int))).toNat)) := (cell_of_row wr _ _ _ _ _ HG.out).trans (tabAt_get _ (by omega))
      go_wp2_with fail
      go_roundg g
      case measure => omega
      case rel => 
        refine ⟨i + 1, _, by omega, by first | rfl | simp, rfl, ⟨?_⟩, rfl⟩
        have h := HC.out
        rw [List.drop_eq_getElem_cons hlt, crcFrom] at h
        have e : rd l0 (i : Int) = l0[i] := by unfold rd; rw [Int.toNat_natCast, List.getD_eq_getElem?_getD, List.getElem?_eq_getElem hlt]; rfl
        rw [e]
        exact h
end Go.Proofs.Ytdnhfofmfpgmmaa.X
