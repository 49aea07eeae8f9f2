/- This file proves what packet.opened hands back: the bytes between the letters and the sum, as a part of what came in. -/
import Derived.Test.YtgmiilolikbekaaXWords
import Derived.Test.YtgmiilolikbekaaProg
import Derived.Test.YtgmiilolikbekaaXSum
import Derived.Deep.WholeRow
import Derived.Deep.LoopGhost
import Derived.Laws.Tables
import Derived.Laws.ResultCell
import Derived.WalkKit
import Derived.RowKit3
import Derived.Outline
import Derived.OpenShut
set_option linter.unusedVariables false
set_option linter.unusedSimpArgs false
namespace Go.Proofs.Ytgmiilolikbekaa.X
open Go.RowKit Go.Proofs.YtgmiilolikbekaaW.PrintWords Go.Proofs.YtgmiilolikbekaaW.PrintLast Go.Proofs.YtgmiilolikbekaaW.PrintMore

set_option maxHeartbeats 4000000 in
set_option maxRecDepth 1000000 in
theorem opened_short (A0 : Option Addr) (c0 : Nat) (l0 : List Int) (w : World) (h : l0.length < 7) :
    Calls Try.prog 31 #[.slice A0 l0.length c0] w fun e w' => e = .returned (.tuple #[.slice none 0 0, .int .i64 2]) ∧ w' = w := by
  have e4 : wrap64 ((l0.length : Int) - 4) = (l0.length : Int) - 4 := by unfold wrap64; omega
  have h3 : (l0.length : Int) - 4 < 3 := by omega
  go_enter Try.func31, Try.ntmps31
  go_wp2_with fail
  go_ret2
  exact ⟨rfl, rfl⟩
theorem w64o {n : Int} (h1 : -9223372036854775808 ≤ n) (h2 : n ≤ 9223372036854775807) : wrap64 n = n := by unfold wrap64; omega
theorem info_u8 : (Try.prog.info? 5).map (fun i => (i.zero, i.size, i.bytes)) = some (some (.int .u8 0), 1, 1) := by kernel_rfl
set_option maxHeartbeats 8000000 in
set_option maxRecDepth 1000000 in
theorem opened_form (A0 : Option Addr) (c0 : Nat) (l0 : List Int) (w : World) (hr0 : Kd.C (Kd.int .u8) w A0 l0.length l0) (hc0 : l0.length ≤ c0) (h7 : 7 ≤ l0.length) (hl : l0.length ≤ 1000000) (hh : (strOfNums (l0.take 3)).toList ≠ [84, 83, 49]) :
    Calls Try.prog 31 #[.slice A0 l0.length c0] w fun e w' => e = .returned (.tuple #[.slice none 0 0, .int .i64 3]) ∧ w' = w := by
  obtain ⟨i0, hi0, _, hs0, _⟩ := info_parts info_u8
  have h3 : 3 ≤ (l0.length : Int) - 4 := by omega
  obtain ⟨hcut3, hA3, hC3⟩ := print_take_of (P := Try.prog) (Value.int .u8) 0 26 5 .i64 Try.underlying26 hi0 hs0 A0 c0 l0 3 (by omega) (by omega) hc0
  have hcv := Kd.C_string (P := Try.prog) (A := A0) (c := c0) Try.underlying26 Try.underlying5 Try.underlying9 (Kd.C_take (m := 3) hr0 (by omega))
  obtain ⟨t3, N3⟩ : ∃ t : List Int, t = l0.take 3 := ⟨_, rfl⟩
  have e3 : l0.take (3 : Int).toNat = t3 := by rw [N3]; rfl
  rw [e3] at hcut3
  rw [← N3] at hcv hh
  have hb : ((strOfNums t3).toList == [84, 83, 49]) = false := by simpa using hh
  clear hA3 hC3 e3 N3 hh
  go_enter Try.func31, Try.ntmps31
  go_wp2_with fail
  go_ret2
  exact ⟨rfl, rfl⟩
set_option maxHeartbeats 8000000 in
set_option maxRecDepth 1000000 in
theorem opened_ok (A0 : Option Addr) (c0 : Nat) (l0 : List Int) (w : World) (hr0 : Kd.C (Kd.int .u8) w A0 l0.length l0) (hc0 : l0.length ≤ c0) (h7 : 7 ≤ l0.length) (hl : l0.length ≤ 1000000) (hh : (strOfNums (l0.take 3)).toList = [84, 83, 49]) :
    ∃ (A1 : Option Addr) (c1 : Nat), ((l0.take ((l0.length : Int) - 4).toNat).drop (3 : Int).toNat).length ≤ c1 ∧ (∀ W : World, Kd.C (Kd.int .u8) W A0 l0.length l0 → Kd.C (Kd.int .u8) W A1 ((l0.take ((l0.length : Int) - 4).toNat).drop (3 : Int).toNat).length ((l0.take ((l0.length : Int) - 4).toNat).drop (3 : Int).toNat)) ∧
    Calls Try.prog 31 #[.slice A0 l0.length c0] w fun e w' => Below w.heap.size w w' ∧ ((∃ j : Nat, j < 4 ∧ rd l0 ((l0.length : Int) - 4 + j) ≠ shr .u32 (crc (l0.take ((l0.length : Int) - 4).toNat)) (8 * (j : Int)) % 256 ∧ e = .returned (.tuple #[.slice none 0 0, .int .i64 5])) ∨
      ((∀ j : Nat, j < 4 → rd l0 ((l0.length : Int) - 4 + j) = shr .u32 (crc (l0.take ((l0.length : Int) - 4).toNat)) (8 * (j : Int)) % 256) ∧ e = .returned (.tuple #[.slice A1 ((l0.take ((l0.length : Int) - 4).toNat).drop (3 : Int).toNat).length c1, .int .i64 0]))) := by
  obtain ⟨i0, hi0, _, hs0, _⟩ := info_parts info_u8
  have h3 : 3 ≤ (l0.length : Int) - 4 := by omega
  obtain ⟨hcut3, hA3, hC3⟩ := print_take_of (P := Try.prog) (Value.int .u8) 0 26 5 .i64 Try.underlying26 hi0 hs0 A0 c0 l0 3 (by omega) (by omega) hc0
  have hcv := Kd.C_string (P := Try.prog) (A := A0) (c := c0) Try.underlying26 Try.underlying5 Try.underlying9 (Kd.C_take (m := 3) hr0 (by omega))
  obtain ⟨hcutn, hAn, hCn⟩ := print_take_of (P := Try.prog) (Value.int .u8) 0 26 5 .i64 Try.underlying26 hi0 hs0 A0 c0 l0 ((l0.length : Int) - 4) (by omega) (by omega) hc0
  obtain ⟨A1, hmid, hAm, hCm⟩ := print_mid3_of (P := Try.prog) (Value.int .u8) 0 26 5 .i64 .i64 Try.underlying26 hi0 hs0 A0 c0 l0 3 ((l0.length : Int) - 4) (by omega) (by omega) (by omega) hc0
  have HAm := Aside0.mk (fun (W : World) (h : Kd.C (Kd.int .u8) W A0 l0.length l0) => Kd.C_of_reads (d := (0 : Int)) (h1 := fun _ => rfl) (hAm W (Kd.reads_of_C (enc := Value.int .u8) (d := (0 : Int)) h)))
  clear hAm
  have HCm := Aside0.mk hCm
  clear hCm
  obtain ⟨t3, N3⟩ : ∃ t : List Int, t = l0.take 3 := ⟨_, rfl⟩
  have e3 : l0.take (3 : Int).toNat = t3 := by rw [N3]; rfl
  rw [e3] at hcut3
  rw [← N3] at hcv hh
  have hb : ((strOfNums t3).toList == [84, 83, 49]) = true := by simpa using hh
  obtain ⟨cm, Ncm⟩ : ∃ t : Nat, t = ((l0.length : Int) - 4).toNat - (3 : Int).toNat := ⟨_, rfl⟩
  rw [← Ncm] at hmid HCm
  obtain ⟨tn, Nn⟩ : ∃ t : List Int, t = l0.take ((l0.length : Int) - 4).toNat := ⟨_, rfl⟩
  rw [← Nn] at hcutn hCn hmid HAm HCm ⊢
  obtain ⟨tm, Nm⟩ : ∃ t : List Int, t = tn.drop (3 : Int).toNat := ⟨_, rfl⟩
  rw [← Nm] at hmid HAm HCm ⊢
  have HRn := Aside0.mk (show Kd.C (Kd.int .u8) w A0 tn.length tn from by rw [Nn]; exact Kd.C_take (m := ((l0.length : Int) - 4).toNat) hr0 (by omega))
  have HNn := Aside0.mk Nn
  have HCn := Aside0.mk hCn
  clear hA3 hC3 e3 N3 hh hAn Nn hCn Ncm Nm
  refine ⟨A1, cm, HCm.out, HAm.out, ?_⟩
  clear HCm HAm
  go_enter Try.func31, Try.ntmps31
  go_wp2_with (first | (go_at_call 25; refine (sum_calls A0 c0 tn _ HRn.out HCn.out).mono ?_; rintro e w1 ⟨rfl, hb1⟩))
  have HR1 := Aside0.mk (Kd.C_below hr0 hb1)
  have HB1 := Aside0.mk hb1
  clear hb1 hcut3 hcv hb hcutn HNn HRn HCn
  generalize hcr : crc tn = cr at *
  have HCR := Aside0.mk hcr
  clear hcr
  go_loopg [20] 4 (fun g s20 wx => ∃ k : Nat, k + g = 4 ∧ s20 = .int .i64 k ∧ Aside0 (∀ j : Nat, j < k → rd l0 ((l0.length : Int) - 4 + j) = shr .u32 cr (8 * (j : Int)) % 256) ∧ Aside0 (Below w.heap.size w wx))
  case atStart => exact ⟨0, rfl, rfl, ⟨fun j hj => absurd hj (Nat.not_lt_zero _)⟩, HB1⟩
  case round =>
    clear HB1 HR1
    obtain ⟨k, hk, rfl, HZ, HB1⟩ := hrel
    have HR1 := Aside0.mk (Kd.C_below hr0 HB1.out)
    cases gk with
    | zero =>
      obtain rfl : k = 4 := by omega
      go_wp2_with fail
      go_ret2
      exact ⟨HB1.out, .inr ⟨by rw [HCR.out]; exact HZ.out, rfl⟩⟩
    | succ g =>
      have hk4 : k < 4 := by omega
      have hk4' : (k : Int) < 4 := by omega
      have hk0 : 0 ≤ (k : Int) := by omega
      have hk8 : 0 ≤ 8 * (k : Int) := by omega
      have h0 : 0 ≤ (l0.length : Int) - 4 + (k : Int) := by omega
      have hlt : (l0.length : Int) - 4 + (k : Int) < (l0.length : Int) := by omega
      obtain ⟨ad, e, hx⟩ := Kd.at_int HR1.out ((l0.length : Int) - 4 + (k : Int)) h0 hlt
      cases e
      have hy := fun (n_ : Nat) => (show (wr.drewN n_).cell? _ = some _ from hx)
      obtain ⟨sb, hsb⟩ : ∃ j_ : Int, shr .u32 cr (8 * (k : Int)) = j_ := ⟨_, rfl⟩
      have hle : 8 * (k : Int) ≤ IntKind.u32.bits := by
        have : IntKind.u32.bits = 32 := rfl
        omega
      have hsb1 := shr_small hsb hle
      have hsb2 : cr / 2 ^ min (8 * (k : Int)).toNat 32 = sb := hsb
      have HS := Aside0.mk hsb
      have e1 : wrap64 ((l0.length : Int) - 4 + (k : Int)) = (l0.length : Int) - 4 + (k : Int) := w64o (by omega) (by omega)
      have e2 : wrap64 (8 * (k : Int)) = 8 * (k : Int) := w64o (by omega) (by omega)
      have e1' : IntKind.i64.wrap ((l0.length : Int) - 4 + (k : Int)) = (l0.length : Int) - 4 + (k : Int) := (i64_w _).trans e1
      have e2' : IntKind.i64.wrap (8 * (k : Int)) = 8 * (k : Int) := (i64_w _).trans e2
      have hu8 : IntKind.u8.wrap sb = sb % 256 := by simp [IntKind.wrap, IntKind.bits, IntKind.signed]
      clear hle hsb
      by_cases hq : rd l0 ((l0.length : Int) - 4 + (k : Int)) = sb % 256
      · have hq1 : (rd l0 ((l0.length : Int) - 4 + (k : Int)) != sb % 256) = false := bne_eq_false_iff_eq.mpr hq
        go_wp2_with fail
        repeat (go_quiet (fail); try go_wp2)
        go_roundg g
        case measure => omega
        case rel =>
          refine ⟨k + 1, by omega, by first | rfl | simp, ⟨fun j hj => ?_⟩, ⟨by repeat (first | (with_reducible first | exact HB1.out | apply below_alloc | apply pw_below_drewN | apply below_drew1) | exact HB1.out)⟩⟩
          by_cases hjk : j = k
          · rw [hjk, hq, HS.out]
          · exact HZ.out j (by omega)
      · have hq1 : (rd l0 ((l0.length : Int) - 4 + (k : Int)) != sb % 256) = true := bne_iff_ne.mpr hq
        go_wp2_with fail
        repeat (go_quiet (fail); try go_wp2)
        go_ret2
        exact ⟨by repeat (first | (with_reducible first | exact HB1.out | apply below_alloc | apply pw_below_drewN | apply below_drew1) | exact HB1.out), .inl ⟨k, hk4, by rw [HCR.out, HS.out]; exact hq, rfl⟩⟩
end Go.Proofs.Ytgmiilolikbekaa.X
