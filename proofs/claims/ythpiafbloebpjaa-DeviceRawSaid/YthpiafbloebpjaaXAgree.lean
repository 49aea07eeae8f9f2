/- This file proves that agree holds of any device, and tells the steps of the reference device as the walks of the laws want them. -/
import Derived.Test.YthpiafbloebpjaaXSteps
set_option linter.unusedVariables false
set_option linter.unusedSimpArgs false
namespace Go.Proofs.Ythpiafbloebpjaa.PDeviceSteps
open Go.RowKit Go.Proofs.YthpiafbloebpjaaW.PrintWords Go.Proofs.YthpiafbloebpjaaW.PrintLast Go.Proofs.YthpiafbloebpjaaW.PrintMore Go.Proofs.Ythpiafbloebpjaa.Base
/-- agree's three boxes: the device, and one result of each side. -/
structure AG (w W : World) (g4 g13 g15 : Nat) (a0 a1 u0 u1 v0 v1 : Value) : Prop where
  below : Below w.heap.size w W
  b4 : W.heap[g4]? = some (.cells #[a0, a1] 25 (0, 0))
  bu : W.heap[g13]? = some (.cells #[u0, u1] 25 (0, 0))
  bv : W.heap[g15]? = some (.cells #[v0, v1] 25 (0, 0))
  z13 : w.heap.size ≤ g13
  z15 : w.heap.size ≤ g15
  n1 : g4 ≠ g13
  n2 : g4 ≠ g15
  n3 : g13 ≠ g15
section
variable {w W W1 : World} {g4 g13 g15 : Nat} {a0 a1 u0 u1 v0 v1 x0 x1 : Value}
theorem AG.step (h : AG w W g4 g13 g15 a0 a1 u0 u1 v0 v1) (hb : Below W.heap.size W W1) : AG w W1 g4 g13 g15 a0 a1 u0 u1 v0 v1 :=
  ⟨below_step h.below hb, blk_below h.b4 hb, blk_below h.bu hb, blk_below h.bv hb, h.z13, h.z15, h.n1, h.n2, h.n3⟩
theorem AG.putu (h : AG w W g4 g13 g15 a0 a1 u0 u1 v0 v1) : AG w ((W.setCell ⟨g13, 0, none⟩ x0).setCell ⟨g13, 1, none⟩ x1) g4 g13 g15 a0 a1 x0 x1 v0 v1 :=
  ⟨(h.below.setCell h.z13 _).setCell h.z13 _, blk_far (p := ⟨g13, 1, none⟩) (blk_far (p := ⟨g13, 0, none⟩) h.b4 h.n1 _) h.n1 _, blk_set (blk_set h.bu 0 x0) 1 x1, blk_far (p := ⟨g13, 1, none⟩) (blk_far (p := ⟨g13, 0, none⟩) h.bv h.n3.symm _) h.n3.symm _, h.z13, h.z15, h.n1, h.n2, h.n3⟩
theorem AG.putv (h : AG w W g4 g13 g15 a0 a1 u0 u1 v0 v1) : AG w ((W.setCell ⟨g15, 0, none⟩ x0).setCell ⟨g15, 1, none⟩ x1) g4 g13 g15 a0 a1 u0 u1 x0 x1 :=
  ⟨(h.below.setCell h.z15 _).setCell h.z15 _, blk_far (p := ⟨g15, 1, none⟩) (blk_far (p := ⟨g15, 0, none⟩) h.b4 h.n2 _) h.n2 _, blk_far (p := ⟨g15, 1, none⟩) (blk_far (p := ⟨g15, 0, none⟩) h.bu h.n3 _) h.n3 _, blk_set (blk_set h.bv 0 x0) 1 x1, h.z13, h.z15, h.n1, h.n2, h.n3⟩
theorem AG.cells (h : AG w W g4 g13 g15 a0 a1 u0 u1 v0 v1) : W.cell? ⟨g4, 0, none⟩ = some a0 ∧ W.cell? ⟨g4, 1, none⟩ = some a1 ∧ W.cell? ⟨g13, 0, none⟩ = some u0 ∧ W.cell? ⟨g13, 1, none⟩ = some u1 ∧ W.cell? ⟨g15, 0, none⟩ = some v0 ∧ W.cell? ⟨g15, 1, none⟩ = some v1 :=
  ⟨(blk_cell h.b4 0).trans rfl, (blk_cell h.b4 1).trans rfl, (blk_cell h.bu 0).trans rfl, (blk_cell h.bu 1).trans rfl, (blk_cell h.bv 0).trans rfl, (blk_cell h.bv 1).trans rfl⟩
theorem AG.froz (h : AG w W g4 g13 g15 a0 a1 u0 u1 v0 v1) : W.frozen? ⟨g13, 0, none⟩ = false ∧ W.frozen? ⟨g13, 1, none⟩ = false ∧ W.frozen? ⟨g15, 0, none⟩ = false ∧ W.frozen? ⟨g15, 1, none⟩ = false :=
  ⟨blk_frozen h.bu 0, blk_frozen h.bu 1, blk_frozen h.bv 0, blk_frozen h.bv 1⟩
theorem Dv.far {A0 A1 : Option Addr} {c0 c1 : Nat} {P : List (List Int)} {Q : List S42} {p : Addr} {x : Value} (h : Dv W A0 c0 P A1 c1 Q) (base : World) (hb : Dv base A0 c0 P A1 c1 Q) (hB : Below base.heap.size base (W.setCell p x)) : Dv (W.setCell p x) A0 c0 P A1 c1 Q := hb.below hB
end
/-! ### agree -/
section
variable {W : World} {A0 A1 : Option Addr} {c0 c1 : Nat} {P : List (List Int)} {Q : List S42}
theorem Dv.read1 (h : Dv W A0 c0 P A1 c1 Q) (hf : Fit2 P Q) (page : Int) : Calls Try.prog 16 #[.agg #[.slice A0 P.length c0, .slice A1 Q.length c1], .int .i64 page] W fun e w' => ∃ A c, e = .returned (.tuple #[.slice A (readV P Q page).1.length c, .int .i64 (readV P Q page).2]) ∧ Kd.C (Kd.int .u8) w' A (readV P Q page).1.length (readV P Q page).1 ∧ Below W.heap.size W w' := by
  obtain ⟨k, hk⟩ := read_ev P Q page hf
  refine (device_Read.calls k (fun _ => True) A0 c0 P (fun _ => True) A1 c1 Q page (readV P Q page).1 (readV P Q page).2 W h.V0 h.V1 (hk k (Nat.le_refl _))).mono ?_
  rintro e w' ⟨v, rfl, hr, hb⟩
  obtain ⟨A, c, rfl⟩ := Kd.R_slice hr
  exact ⟨A, c, rfl, (Kd.R_reads' hr).2.2, hb⟩
theorem Dv.read2 (h : Dv W A0 c0 P A1 c1 Q) (hf : Fit2 P Q) (page : Int) : Calls Try.prog 18 #[.agg #[.slice A0 P.length c0, .slice A1 Q.length c1], .int .i64 page] W fun e w' => ∃ A c, e = .returned (.tuple #[.slice A (readV P Q page).1.length c, .int .i64 (readV P Q page).2]) ∧ Kd.C (Kd.int .u8) w' A (readV P Q page).1.length (readV P Q page).1 ∧ Below W.heap.size W w' := by
  obtain ⟨k, hk⟩ := rread_ev P Q page hf
  refine (shapesearchref24_Read.calls k (fun _ => True) A0 c0 P (fun _ => True) A1 c1 Q page (readV P Q page).1 (readV P Q page).2 W h.V0 h.V1 (hk k (Nat.le_refl _))).mono ?_
  rintro e w' ⟨v, rfl, hr, hb⟩
  obtain ⟨A, c, rfl⟩ := Kd.R_slice hr
  exact ⟨A, c, rfl, (Kd.R_reads' hr).2.2, hb⟩
theorem Dv.write1 (L : Nat) (h : Dv W A0 c0 P A1 c1 Q) (hf : Fit2 P Q) (page : Int) {Ab : Option Addr} {cb : Nat} {b : List Int} (hb : Kd.C (Kd.int .u8) W Ab b.length b) (hcb : b.length ≤ cb) : Calls Try.prog 14 #[.agg #[.slice A0 P.length c0, .slice A1 Q.length c1], .int .i64 page, .slice Ab b.length cb] W (RD L W (writeV P Q page b)) := by
  obtain ⟨k, hk⟩ := write_ev P Q page b hf
  exact (device_Write.calls k A0 c0 P A1 c1 Q page Ab cb b _ _ _ W h.hp h.cp h.hq h.cq hb hcb (hk k (Nat.le_refl _))).mono fun e w' hh => RD.of_S hh
theorem Dv.flush1 (L : Nat) (h : Dv W A0 c0 P A1 c1 Q) (hf : Fit2 P Q) : Calls Try.prog 15 #[.agg #[.slice A0 P.length c0, .slice A1 Q.length c1]] W (RD L W (crashV (fun _ => 64) P Q)) := by
  obtain ⟨k, hk⟩ := flush_ev P Q hf
  exact (device_Flush.calls k A0 c0 P A1 c1 Q _ _ _ W h.hp h.cp h.hq h.cq (hk k (Nat.le_refl _))).mono fun e w' hh => RD.of_S hh
theorem Dv.crash1 (L : Nat) (h : Dv W A0 c0 P A1 c1 Q) (hf : Fit2 P Q) {Ak : Option Addr} {ck : Nat} {keep : List Int} (hk : Kd.C (Kd.int .i64) W Ak keep.length keep) (hck : keep.length ≤ ck) : Calls Try.prog 17 #[.agg #[.slice A0 P.length c0, .slice A1 Q.length c1], .slice Ak keep.length ck] W (RD L W (crashV (XD.keepAt keep) P Q)) := by
  obtain ⟨k, hk1⟩ := crash_ev P Q keep hf
  exact (device_Crash.calls k A0 c0 P A1 c1 Q Ak ck keep _ _ _ W h.hp h.cp h.hq h.cq hk hck (hk1 k (Nat.le_refl _))).mono fun e w' hh => RD.of_S hh
theorem Dv.valid1 (h : Dv W A0 c0 P A1 c1 Q) (hf : Fit2 P Q) : Calls Try.prog 19 #[.agg #[.slice A0 P.length c0, .slice A1 Q.length c1]] W fun e w' => e = .returned (.bool (validB P Q)) ∧ Below W.heap.size W w' := by
  obtain ⟨k, hk⟩ := valid_ev P Q hf
  exact device_Valid.calls k A0 c0 P A1 c1 Q _ W h.hp h.cp h.hq h.cq (hk k (Nat.le_refl _))
theorem Dv.valid2 (h : Dv W A0 c0 P A1 c1 Q) (hf : Fit2 P Q) : Calls Try.prog 20 #[.agg #[.slice A0 P.length c0, .slice A1 Q.length c1]] W fun e w' => e = .returned (.bool (validB P Q)) ∧ Below W.heap.size W w' := by
  obtain ⟨k, hk⟩ := rvalid_ev P Q hf
  exact shapesearchref24_Valid.calls k A0 c0 P A1 c1 Q _ W h.hp h.cp h.hq h.cq (hk k (Nat.le_refl _))
theorem Dv.same {B0 B1 : Option Addr} {d0 d1 : Nat} (h : Dv W A0 c0 P A1 c1 Q) (h' : Dv W B0 d0 P B1 d1 Q) (hp : P.length ≤ 5864062014634) (hq : Q.length ≤ 4398046510976) : Calls Try.prog 9 #[.agg #[.slice A0 P.length c0, .slice A1 Q.length c1], .agg #[.slice B0 P.length d0, .slice B1 Q.length d1]] W fun e w' => e = .returned (.bool true) ∧ Below W.heap.size W w' := by
  obtain ⟨k, hk⟩ := same_self P Q hp hq
  exact shapesearchref24_Same.calls k A0 c0 P A1 c1 Q B0 d0 P B1 d1 Q _ W h.hp h.cp h.hq h.cq h'.hp h'.cp h'.hq h'.cq (hk k (Nat.le_refl _))
end
theorem writeV_len {P : List (List Int)} {Q : List S42} (h : Fit2 P Q) (page : Int) (b : List Int) : (writeV P Q page b).1.length ≤ 5864062014634 ∧ (writeV P Q page b).2.1.length ≤ 4398046510976 := by
  have h1 := h.1
  have h2 := h.2.1
  unfold writeV
  by_cases hv : validB P Q = true
  · have := (validB_ok hv).few
    rw [if_pos hv]
    split
    · exact ⟨h1, h2⟩
    split
    · exact ⟨h1, h2⟩
    split
    · exact ⟨h1, h2⟩
    · exact ⟨h1, by simp; omega⟩
  · rw [if_neg hv]
    exact ⟨h1, h2⟩
theorem crashV_len {P : List (List Int)} {Q : List S42} (h : Fit2 P Q) (n : Nat → Int) : (crashV n P Q).1.length ≤ 5864062014634 ∧ (crashV n P Q).2.1.length ≤ 4398046510976 := by
  unfold crashV
  split
  · exact ⟨by show (carr n Q P Q.length).length ≤ _; rw [carr_len]; exact h.1, by simp⟩
  · exact ⟨h.1, h.2.1⟩
set_option maxHeartbeats 8000000 in
set_option maxRecDepth 100000 in
theorem agree_ok (A0 : Option Addr) (c0 : Nat) (P : List (List Int)) (A1 : Option Addr) (c1 : Nat) (Q : List S42) (page : Int) (Ab : Option Addr) (cb : Nat) (b : List Int) (Ak : Option Addr) (ck : Nat) (keep : List Int) (w : World)
    (hd : Dv w A0 c0 P A1 c1 Q) (hf : Fit2 P Q) (hb : Kd.C (Kd.int .u8) w Ab b.length b) (hcb : b.length ≤ cb) (hk : Kd.C (Kd.int .i64) w Ak keep.length keep) (hck : keep.length ≤ ck) :
    Calls Try.prog 10 #[.agg #[.slice A0 P.length c0, .slice A1 Q.length c1], .int .i64 page, .slice Ab b.length cb, .slice Ak keep.length ck] w fun e w' => e = .returned (.bool true) ∧ Below w.heap.size w w' := by
  have HD := Aside0.mk hd
  have HF := Aside0.mk hf
  have HBK := Aside0.mk hb
  have HCB := Aside0.mk hcb
  have HKK := Aside0.mk hk
  have HCK := Aside0.mk hck
  have HWL := Aside0.mk (writeV_len hf page b)
  have HFL := Aside0.mk (crashV_len hf (fun _ => 64))
  have HCL := Aside0.mk (crashV_len hf (XD.keepAt keep))
  clear hd hf hb hcb hk hck
  obtain ⟨rv, hrv⟩ : ∃ rv, rv = readV P Q page := ⟨_, rfl⟩
  obtain ⟨wv, hwv⟩ : ∃ wv, wv = writeV P Q page b := ⟨_, rfl⟩
  obtain ⟨fv, hfv⟩ : ∃ fv, fv = crashV (fun _ => 64) P Q := ⟨_, rfl⟩
  obtain ⟨cv, hcv⟩ : ∃ cv, cv = crashV (XD.keepAt keep) P Q := ⟨_, rfl⟩
  rw [← hwv] at HWL
  rw [← hfv] at HFL
  rw [← hcv] at HCL
  have R1 := Aside0.mk (fun (W : World) (hB : Below w.heap.size w W) => by have := (HD.out.below hB).read1 HF.out page; rw [← hrv] at this; exact this)
  have R2 := Aside0.mk (fun (W : World) (hB : Below w.heap.size w W) => by have := (HD.out.below hB).read2 HF.out page; rw [← hrv] at this; exact this)
  have W1 := Aside0.mk (fun (W : World) (hB : Below w.heap.size w W) => by have := (HD.out.below hB).write1 w.heap.size HF.out page (Kd.C_below HBK.out hB) HCB.out; rw [← hwv] at this; exact this)
  have W2 := Aside0.mk (fun (W : World) (hB : Below w.heap.size w W) => by have := (rwrite_ok A0 c0 P A1 c1 Q page Ab cb b W (HD.out.below hB) HF.out (Kd.C_below HBK.out hB)).mono (fun e w' hh => RP.read (HD.out.F hB) hh); rw [← hwv] at this; exact this)
  have F1 := Aside0.mk (fun (W : World) (hB : Below w.heap.size w W) => by have := (HD.out.below hB).flush1 w.heap.size HF.out; rw [← hfv] at this; exact this)
  have F2 := Aside0.mk (fun (W : World) (hB : Below w.heap.size w W) => by have := (rflush_ok A0 c0 P A1 c1 Q W (HD.out.below hB) HF.out).mono (fun e w' hh => RP.read (HD.out.F hB) hh); rw [← hfv] at this; exact this)
  have C1 := Aside0.mk (fun (W : World) (hB : Below w.heap.size w W) => by have := (HD.out.below hB).crash1 w.heap.size HF.out (Kd.C_below HKK.out hB) HCK.out; rw [← hcv] at this; exact this)
  have C2 := Aside0.mk (fun (W : World) (hB : Below w.heap.size w W) => by have := (rcrash_ok A0 c0 P A1 c1 Q Ak ck keep W (HD.out.below hB) HF.out (Kd.C_below HKK.out hB)).mono (fun e w' hh => RP.read (HD.out.F hB) hh); rw [← hcv] at this; exact this)
  clear hrv hwv hfv hcv
  go_enter Try.func10, Try.ntmps10
  go_upto_region 1 with (fail)
  have HB0 := Aside0.mk (show Below w.heap.size w (w.alloc (.cells #[.slice A0 P.length c0, .slice A1 Q.length c1] 25)) from (Below.refl w.heap.size w).alloc (Nat.le_refl _) _)
  have HK0 := Aside0.mk (heap_alloc_new w (.cells #[.slice A0 P.length c0, .slice A1 Q.length c1] 25))
  generalize (w.alloc (.cells #[.slice A0 P.length c0, .slice A1 Q.length c1] 25)) = W0 at HB0 HK0 ⊢
  obtain ⟨g4, hg4⟩ : ∃ g4, g4 = w.heap.size := ⟨_, rfl⟩
  have hgl : w.heap.size ≤ g4 := by omega
  rw [← hg4] at HK0 ⊢
  clear hg4
  have HGL := Aside0.mk hgl
  clear hgl
  have k0 : W0.cell? ⟨g4, 0, none⟩ = some (.slice A0 P.length c0) := (blk_cell HK0.out 0).trans rfl
  have k1 : W0.cell? ⟨g4, 1, none⟩ = some (.slice A1 Q.length c1) := (blk_cell HK0.out 1).trans rfl
  go_wp2_with fail
  go_at_call 16
  refine (R1.out _ HB0.out).mono ?_
  rintro e w1 ⟨Ax, cx, rfl, hx, hb1⟩
  have HB1 := Aside0.mk (below_step HB0.out hb1)
  have HK1 := Aside0.mk (blk_below HK0.out hb1)
  have HX1 := Aside0.mk hx
  clear hb1 hx k0 k1 HB0 HK0
  have k0 : w1.cell? ⟨g4, 0, none⟩ = some (.slice A0 P.length c0) := (blk_cell HK1.out 0).trans rfl
  have k1 : w1.cell? ⟨g4, 1, none⟩ = some (.slice A1 Q.length c1) := (blk_cell HK1.out 1).trans rfl
  go_wp2_with fail
  go_at_call 18
  refine (R2.out _ HB1.out).mono ?_
  rintro e w2 ⟨Ay, cy, rfl, hy, hb2⟩
  have HB2 := Aside0.mk (below_step HB1.out hb2)
  have HK2 := Aside0.mk (blk_below HK1.out hb2)
  have HX2 := Aside0.mk (Kd.C_below HX1.out hb2)
  have HY2 := Aside0.mk hy
  clear hb2 hy k0 k1 HB1 HK1 HX1
  have k0 : w2.cell? ⟨g4, 0, none⟩ = some (.slice A0 P.length c0) := (blk_cell HK2.out 0).trans rfl
  have k1 : w2.cell? ⟨g4, 1, none⟩ = some (.slice A1 Q.length c1) := (blk_cell HK2.out 1).trans rfl
  go_wp2_with fail
  go_at_call 14
  refine (W1.out _ HB2.out).mono ?_
  rintro e w3 ⟨B0, d0, B1, d1, rfl, hu, hb3⟩
  go_upto_region 4 with (fail)
  have hb3' := below_step hb3 ((Below.refl w3.heap.size w3).alloc (Nat.le_refl _) (.cells #[.slice B0 wv.1.length d0, .slice B1 wv.2.1.length d1] 25))
  have HB3 := Aside0.mk (below_step HB2.out hb3')
  have HK3 := Aside0.mk (blk_below HK2.out hb3')
  have HX3 := Aside0.mk (Kd.C_below HX2.out hb3')
  have HY3 := Aside0.mk (Kd.C_below HY2.out hb3')
  have HU3 := Aside0.mk (hu.below ((Below.refl w3.heap.size w3).alloc (Nat.le_refl _) (.cells #[.slice B0 wv.1.length d0, .slice B1 wv.2.1.length d1] 25)))
  have HKU := Aside0.mk (heap_alloc_new w3 (.cells #[.slice B0 wv.1.length d0, .slice B1 wv.2.1.length d1] 25))
  have HG13 := Aside0.mk (Nat.le_trans HB2.out.size hb3.size)
  have HLT1 := Aside0.mk (show g4 < w3.heap.size from Nat.lt_of_lt_of_le (blk_lt HK2.out) hb3.size)
  clear hb3 hb3' hu k0 k1 HB2 HK2 HX2 HY2
  generalize (w3.alloc (.cells #[.slice B0 wv.1.length d0, .slice B1 wv.2.1.length d1] 25)) = V3 at *
  generalize w3.heap.size = g13 at *
  have k0 : V3.cell? ⟨g4, 0, none⟩ = some (.slice A0 P.length c0) := (blk_cell HK3.out 0).trans rfl
  have k1 : V3.cell? ⟨g4, 1, none⟩ = some (.slice A1 Q.length c1) := (blk_cell HK3.out 1).trans rfl
  go_wp2_with fail
  go_at_call 13
  refine (W2.out _ HB3.out).mono ?_
  rintro e w4 ⟨D0, e0, D1, e1, rfl, hv, hb4⟩
  go_upto_region 5 with (fail)
  have hb4' := below_step hb4 ((Below.refl w4.heap.size w4).alloc (Nat.le_refl _) (.cells #[.slice D0 wv.1.length e0, .slice D1 wv.2.1.length e1] 25))
  have HB4 := Aside0.mk (below_step HB3.out hb4')
  have HK4 := Aside0.mk (blk_below HK3.out hb4')
  have HKU4 := Aside0.mk (blk_below HKU.out hb4')
  have HX4 := Aside0.mk (Kd.C_below HX3.out hb4')
  have HY4 := Aside0.mk (Kd.C_below HY3.out hb4')
  have HU4 := Aside0.mk (HU3.out.below hb4')
  have HV4 := Aside0.mk (hv.below ((Below.refl w4.heap.size w4).alloc (Nat.le_refl _) (.cells #[.slice D0 wv.1.length e0, .slice D1 wv.2.1.length e1] 25)))
  have HKV4 := Aside0.mk (heap_alloc_new w4 (.cells #[.slice D0 wv.1.length e0, .slice D1 wv.2.1.length e1] 25))
  have HG15 := Aside0.mk (Nat.le_trans HB3.out.size hb4.size)
  have HLT2 := Aside0.mk (show g4 < w4.heap.size from Nat.lt_of_lt_of_le (blk_lt HK3.out) hb4.size)
  have HLT3 := Aside0.mk (show g13 < w4.heap.size from Nat.lt_of_lt_of_le (blk_lt HKU.out) hb4.size)
  clear hb4 hb4' hv k0 k1 HB3 HK3 HX3 HY3 HU3 HKU
  generalize (w4.alloc (.cells #[.slice D0 wv.1.length e0, .slice D1 wv.2.1.length e1] 25)) = V4 at *
  generalize w4.heap.size = g15 at *
  have k0 : V4.cell? ⟨g4, 0, none⟩ = some (.slice A0 P.length c0) := (blk_cell HK4.out 0).trans rfl
  have k1 : V4.cell? ⟨g4, 1, none⟩ = some (.slice A1 Q.length c1) := (blk_cell HK4.out 1).trans rfl
  have m0 : V4.cell? ⟨g13, 0, none⟩ = some (.slice B0 wv.1.length d0) := (blk_cell HKU4.out 0).trans rfl
  have m1 : V4.cell? ⟨g13, 1, none⟩ = some (.slice B1 wv.2.1.length d1) := (blk_cell HKU4.out 1).trans rfl
  have n0 : V4.cell? ⟨g15, 0, none⟩ = some (.slice D0 wv.1.length e0) := (blk_cell HKV4.out 0).trans rfl
  have n1 : V4.cell? ⟨g15, 1, none⟩ = some (.slice D1 wv.2.1.length e1) := (blk_cell HKV4.out 1).trans rfl
  have hcx := Kd.C_string (P := Try.prog) (A := Ax) (c := cx) Try.underlying26 Try.underlying5 Try.underlying9 (Kd.C_drew HX4.out)
  have hcy := Kd.C_string (P := Try.prog) (A := Ay) (c := cy) Try.underlying26 Try.underlying5 Try.underlying9 (Kd.C_drew HY4.out)
  go_region_held3 (fun W => (W.cell? ⟨g4, 0, none⟩ = some (.slice A0 P.length c0) ∧ W.cell? ⟨g4, 1, none⟩ = some (.slice A1 Q.length c1) ∧ W.cell? ⟨g13, 0, none⟩ = some (.slice B0 wv.1.length d0) ∧ W.cell? ⟨g13, 1, none⟩ = some (.slice B1 wv.2.1.length d1) ∧ W.cell? ⟨g15, 0, none⟩ = some (.slice D0 wv.1.length e0) ∧ W.cell? ⟨g15, 1, none⟩ = some (.slice D1 wv.2.1.length e1)) ∧ Sem.run Try.prog (Go.convert 26 9 (.slice Ax rv.1.length cx)) W = Result.ok (Value.string (strOfNums rv.1)) W ∧ Sem.run Try.prog (Go.convert 26 9 (.slice Ay rv.1.length cy)) W = Result.ok (Value.string (strOfNums rv.1)) W)
    (first | go_keep)
    (first | (go_at_call 9; refine (Dv.same (HU4.out.below (below_drew (Below.refl _ _))).dv (HV4.out.below (below_drew (Below.refl _ _))).dv HWL.out.1 HWL.out.2).mono ?_; rintro e w5 ⟨rfl, hb5⟩; have HB5 := Aside0.mk (below_step (below_drew HB4.out) hb5); have HS5 := Aside0.mk hb5; (have hx5 := Kd.C_string (P := Try.prog) (A := Ax) (c := cx) Try.underlying26 Try.underlying5 Try.underlying9 (Kd.C_below (Kd.C_drew HX4.out) hb5)); (have hy5 := Kd.C_string (P := Try.prog) (A := Ay) (c := cy) Try.underlying26 Try.underlying5 Try.underlying9 (Kd.C_below (Kd.C_drew HY4.out) hb5)); (have k0a := pw_cell_below hb5 k0); (have k1a := pw_cell_below hb5 k1); (have m0a := pw_cell_below hb5 m0); (have m1a := pw_cell_below hb5 m1); (have n0a := pw_cell_below hb5 n0); (have n1a := pw_cell_below hb5 n1); clear hb5) | (go_at_call 19; refine (Dv.valid1 (HD.out.below HB5.out) HF.out).mono ?_; rintro e w6 ⟨rfl, hb6⟩; have HB6 := Aside0.mk (below_step HB5.out hb6); have HS6 := Aside0.mk hb6; (have hx6 := Kd.C_string (P := Try.prog) (A := Ax) (c := cx) Try.underlying26 Try.underlying5 Try.underlying9 (Kd.C_below (Kd.C_below (Kd.C_drew HX4.out) HS5.out) hb6)); (have hy6 := Kd.C_string (P := Try.prog) (A := Ay) (c := cy) Try.underlying26 Try.underlying5 Try.underlying9 (Kd.C_below (Kd.C_below (Kd.C_drew HY4.out) HS5.out) hb6)); (have k0b := pw_cell_below hb6 k0a); (have k1b := pw_cell_below hb6 k1a); (have m0b := pw_cell_below hb6 m0a); (have m1b := pw_cell_below hb6 m1a); (have n0b := pw_cell_below hb6 n0a); (have n1b := pw_cell_below hb6 n1a); clear hb6) | (go_at_call 20; refine (Dv.valid2 (HD.out.below HB6.out) HF.out).mono ?_; rintro e w7 ⟨rfl, hb7⟩; have HB7 := Aside0.mk (below_step HB6.out hb7); have HS7 := Aside0.mk hb7; (have hx7 := Kd.C_string (P := Try.prog) (A := Ax) (c := cx) Try.underlying26 Try.underlying5 Try.underlying9 (Kd.C_below (Kd.C_below (Kd.C_below (Kd.C_drew HX4.out) HS5.out) HS6.out) hb7)); (have hy7 := Kd.C_string (P := Try.prog) (A := Ay) (c := cy) Try.underlying26 Try.underlying5 Try.underlying9 (Kd.C_below (Kd.C_below (Kd.C_below (Kd.C_drew HY4.out) HS5.out) HS6.out) hb7)); (have k0c := pw_cell_below hb7 k0b); (have k1c := pw_cell_below hb7 k1b); (have m0c := pw_cell_below hb7 m0b); (have m1c := pw_cell_below hb7 m1b); (have n0c := pw_cell_below hb7 n0b); (have n1c := pw_cell_below hb7 n1b); clear hb7))
  have hlt1 := blk_lt HKU4.out
  have HAG := Aside0.mk (show AG w w7 g4 g13 g15 (.slice A0 P.length c0) (.slice A1 Q.length c1) (.slice B0 wv.1.length d0) (.slice B1 wv.2.1.length d1) (.slice D0 wv.1.length e0) (.slice D1 wv.2.1.length e1) from
    ⟨HB7.out, blk_below (blk_below (blk_below (blk_drew HK4.out) HS5.out) HS6.out) HS7.out, blk_below (blk_below (blk_below (blk_drew HKU4.out) HS5.out) HS6.out) HS7.out, blk_below (blk_below (blk_below (blk_drew HKV4.out) HS5.out) HS6.out) HS7.out, HG13.out, HG15.out, Nat.ne_of_lt HLT1.out, Nat.ne_of_lt HLT2.out, Nat.ne_of_lt HLT3.out⟩)
  have hbe : (validB P Q != validB P Q) = false := bne_self_eq_false _
  clear k0 k1 m0 m1 n0 n1 k0a k1a m0a m1a n0a n1a k0b k1b m0b m1b n0b n1b k0c k1c m0c m1c n0c n1c hcx hcy hx5 hy5 hx6 hy6 hx7 hy7 hlt1 HB4 HK4 HKU4 HX4 HY4 HU4 HV4 HKV4 HB5 HS5 HB6 HS6 HB7 HS7
  have HSZ := Aside0.mk (blk_lt HAG.out.bu)
  have HSZ' := Aside0.mk (blk_lt HAG.out.bv)
  obtain ⟨k0, k1, m0, m1, n0, n1⟩ := HAG.out.cells
  go_wp2_with fail
  go_at_call 15
  refine (F1.out _ HAG.out.below).mono ?_
  rintro e w8 ⟨B2, d2, B3, d3, rfl, hu, hb8⟩
  have HAG8 := Aside0.mk (HAG.out.step hb8)
  have HU8 := Aside0.mk hu
  clear hb8 hu k0 k1 m0 m1 n0 n1 hbe
  obtain ⟨k0, k1, m0, m1, n0, n1⟩ := HAG8.out.cells
  obtain ⟨f0, f1, f2, f3⟩ := HAG8.out.froz
  have hn1 := HAG8.out.n1
  have hn2 := HAG8.out.n2
  have hn3 := HAG8.out.n3
  go_upto_region 8 with (fail)
  have HAG9 := Aside0.mk (HAG8.out.putu (x0 := .slice B2 fv.1.length d2) (x1 := .slice B3 fv.2.1.length d3))
  have HU9 := Aside0.mk ((HU8.out.far (p := ⟨g13, 0, none⟩) (fun k hk => by have h1 := HSZ.out; have h2 := HG13.out; show k ≠ g13; omega) (.slice B2 fv.1.length d2)).far (p := ⟨g13, 1, none⟩) (fun k hk => by have h1 := HSZ.out; have h2 := HG13.out; show k ≠ g13; omega) (.slice B3 fv.2.1.length d3))
  clear HAG HAG8 HU8 k0 k1 m0 m1 n0 n1 f0 f1 f2 f3
  generalize ((w8.setCell ⟨g13, 0, none⟩ (.slice B2 fv.1.length d2)).setCell ⟨g13, 1, none⟩ (.slice B3 fv.2.1.length d3)) = V8 at HAG9 HU9 ⊢
  have HSV := Aside0.mk (blk_lt HAG9.out.bv)
  obtain ⟨k0, k1, m0, m1, n0, n1⟩ := HAG9.out.cells
  go_wp2_with fail
  go_at_call 11
  refine (F2.out _ HAG9.out.below).mono ?_
  rintro e w9 ⟨D2, e2, D3, e3, rfl, hv, hb9⟩
  have HAG10 := Aside0.mk (HAG9.out.step hb9)
  have HU10 := Aside0.mk (HU9.out.below hb9)
  have HV10 := Aside0.mk hv
  clear hb9 hv k0 k1 m0 m1 n0 n1
  obtain ⟨k0, k1, m0, m1, n0, n1⟩ := HAG10.out.cells
  obtain ⟨f0, f1, f2, f3⟩ := HAG10.out.froz
  go_upto_region 9 with (fail)
  have HAG11 := Aside0.mk (HAG10.out.putv (x0 := .slice D2 fv.1.length e2) (x1 := .slice D3 fv.2.1.length e3))
  have HU11 := Aside0.mk ((HU10.out.far (p := ⟨g15, 0, none⟩) (fun k hk => by have h1 := HSZ'.out; have h2 := HG15.out; show k ≠ g15; omega) (.slice D2 fv.1.length e2)).far (p := ⟨g15, 1, none⟩) (fun k hk => by have h1 := HSZ'.out; have h2 := HG15.out; show k ≠ g15; omega) (.slice D3 fv.2.1.length e3))
  have HV11 := Aside0.mk ((HV10.out.far (p := ⟨g15, 0, none⟩) (fun k hk => by have h1 := HSV.out; have h2 := HG15.out; show k ≠ g15; omega) (.slice D2 fv.1.length e2)).far (p := ⟨g15, 1, none⟩) (fun k hk => by have h1 := HSV.out; have h2 := HG15.out; show k ≠ g15; omega) (.slice D3 fv.2.1.length e3))
  clear HAG9 HU9 HAG10 HU10 HV10 HSZ HSZ' HSV k0 k1 m0 m1 n0 n1 f0 f1 f2 f3
  generalize ((w9.setCell ⟨g15, 0, none⟩ (.slice D2 fv.1.length e2)).setCell ⟨g15, 1, none⟩ (.slice D3 fv.2.1.length e3)) = V9 at HAG11 HU11 HV11 ⊢
  obtain ⟨k0, k1, m0, m1, n0, n1⟩ := HAG11.out.cells
  go_wp2_with fail
  go_at_call 9
  refine (Dv.same HU11.out.dv HV11.out.dv HFL.out.1 HFL.out.2).mono ?_
  rintro e w10 ⟨rfl, hb10⟩
  have HAGc := Aside0.mk (HAG11.out.step hb10)
  clear hb10 k0 k1 m0 m1 n0 n1 HAG11 HU11 HV11
  have HSZ := Aside0.mk (blk_lt HAGc.out.bu)
  have HSZ' := Aside0.mk (blk_lt HAGc.out.bv)
  obtain ⟨k0, k1, m0, m1, n0, n1⟩ := HAGc.out.cells
  go_wp2_with fail
  go_at_call 17
  refine (C1.out _ HAGc.out.below).mono ?_
  rintro e w8 ⟨B4, d4, B5, d5, rfl, hu, hb8⟩
  have HAG8 := Aside0.mk (HAGc.out.step hb8)
  have HU8 := Aside0.mk hu
  clear hb8 hu k0 k1 m0 m1 n0 n1
  obtain ⟨k0, k1, m0, m1, n0, n1⟩ := HAG8.out.cells
  obtain ⟨f0, f1, f2, f3⟩ := HAG8.out.froz
  go_upto_region 12 with (fail)
  have HAG9 := Aside0.mk (HAG8.out.putu (x0 := .slice B4 cv.1.length d4) (x1 := .slice B5 cv.2.1.length d5))
  have HU9 := Aside0.mk ((HU8.out.far (p := ⟨g13, 0, none⟩) (fun k hk => by have h1 := HSZ.out; have h2 := HG13.out; show k ≠ g13; omega) (.slice B4 cv.1.length d4)).far (p := ⟨g13, 1, none⟩) (fun k hk => by have h1 := HSZ.out; have h2 := HG13.out; show k ≠ g13; omega) (.slice B5 cv.2.1.length d5))
  clear HAGc HAG8 HU8 k0 k1 m0 m1 n0 n1 f0 f1 f2 f3
  generalize ((w8.setCell ⟨g13, 0, none⟩ (.slice B4 cv.1.length d4)).setCell ⟨g13, 1, none⟩ (.slice B5 cv.2.1.length d5)) = V8 at HAG9 HU9 ⊢
  have HSV := Aside0.mk (blk_lt HAG9.out.bv)
  obtain ⟨k0, k1, m0, m1, n0, n1⟩ := HAG9.out.cells
  go_wp2_with fail
  go_at_call 12
  refine (C2.out _ HAG9.out.below).mono ?_
  rintro e w9 ⟨D4, e4, D5, e5, rfl, hv, hb9⟩
  have HAG10 := Aside0.mk (HAG9.out.step hb9)
  have HU10 := Aside0.mk (HU9.out.below hb9)
  have HV10 := Aside0.mk hv
  clear hb9 hv k0 k1 m0 m1 n0 n1
  obtain ⟨k0, k1, m0, m1, n0, n1⟩ := HAG10.out.cells
  obtain ⟨f0, f1, f2, f3⟩ := HAG10.out.froz
  go_upto_region 13 with (fail)
  have HAG11 := Aside0.mk (HAG10.out.putv (x0 := .slice D4 cv.1.length e4) (x1 := .slice D5 cv.2.1.length e5))
  have HU11 := Aside0.mk ((HU10.out.far (p := ⟨g15, 0, none⟩) (fun k hk => by have h1 := HSZ'.out; have h2 := HG15.out; show k ≠ g15; omega) (.slice D4 cv.1.length e4)).far (p := ⟨g15, 1, none⟩) (fun k hk => by have h1 := HSZ'.out; have h2 := HG15.out; show k ≠ g15; omega) (.slice D5 cv.2.1.length e5))
  have HV11 := Aside0.mk ((HV10.out.far (p := ⟨g15, 0, none⟩) (fun k hk => by have h1 := HSV.out; have h2 := HG15.out; show k ≠ g15; omega) (.slice D4 cv.1.length e4)).far (p := ⟨g15, 1, none⟩) (fun k hk => by have h1 := HSV.out; have h2 := HG15.out; show k ≠ g15; omega) (.slice D5 cv.2.1.length e5))
  clear HAG9 HU9 HAG10 HU10 HV10 HSZ HSZ' HSV k0 k1 m0 m1 n0 n1 f0 f1 f2 f3
  generalize ((w9.setCell ⟨g15, 0, none⟩ (.slice D4 cv.1.length e4)).setCell ⟨g15, 1, none⟩ (.slice D5 cv.2.1.length e5)) = V9 at HAG11 HU11 HV11 ⊢
  obtain ⟨k0, k1, m0, m1, n0, n1⟩ := HAG11.out.cells
  go_wp2_with fail
  go_at_call 9
  refine (Dv.same HU11.out.dv HV11.out.dv HCL.out.1 HCL.out.2).mono ?_
  rintro e w10 ⟨rfl, hb10⟩
  have HBe := Aside0.mk (below_step HAG11.out.below hb10)
  clear hb10 k0 k1 m0 m1 n0 n1 HAG11 HU11 HV11
  go_wp2_with fail
  go_ret
  exact ⟨rfl, HBe.out⟩
/-! ### the reference's steps and agree, told as the printed walk wants them -/
theorem resN0 {W w' : World} {A0 A1 : Option Addr} {c0 c1 base g : Nat} {P P' : List (List Int)} {Q Q' : List S42} {v0 v1 : Value} (hN : Kd.N (Kd.slice 5 (Kd.int .u8)) 26 W base (fun k => some k ≠ (Value.slice A1 Q.length c1).ownBlock ∧ k ≠ g) (.slice A0 P.length c0) P) (hres : DvRes W w' A0 c0 P A1 c1 Q v0 v1 P' Q') (hb : Below W.heap.size W w') (hs : base ≤ W.heap.size) (hg : g < W.heap.size) : Kd.N (Kd.slice 5 (Kd.int .u8)) 26 w' base (fun k => some k ≠ v1.ownBlock ∧ k ≠ g) v0 P' := by
  rcases hres with ⟨rfl, rfl, rfl, rfl⟩ | ⟨s0, s1⟩
  · exact Kd.N_below hN hb
  · exact Kd.N_lower (Kd.N_mono (Kd.S_N (Kd.S_bound (Kd.S_apart' s0 (Kd.S_typed s1) (by decide)))) (fun k hk => ⟨hk.1.2, by have := hk.2.1; omega⟩)) hs
theorem resN1 {W w' : World} {A0 A1 : Option Addr} {c0 c1 base g : Nat} {P P' : List (List Int)} {Q Q' : List S42} {v0 v1 : Value} (hN : Kd.N k42 42 W base (fun k => some k ≠ (Value.slice A0 P.length c0).ownBlock ∧ k ≠ g) (.slice A1 Q.length c1) Q) (hres : DvRes W w' A0 c0 P A1 c1 Q v0 v1 P' Q') (hb : Below W.heap.size W w') (hs : base ≤ W.heap.size) (hg : g < W.heap.size) : Kd.N k42 42 w' base (fun k => some k ≠ v0.ownBlock ∧ k ≠ g) v1 Q' := by
  rcases hres with ⟨rfl, rfl, rfl, rfl⟩ | ⟨s0, s1⟩
  · exact Kd.N_below hN hb
  · exact Kd.N_lower (Kd.N_mono (Kd.S_N (Kd.S_bound (Kd.S_apart' s1 (Kd.S_typed s0) (by decide)))) (fun k hk => ⟨hk.1.2, by have := hk.2.1; omega⟩)) hs
instance (P : List (List Int)) (Q : List S42) : Decidable (Fit2 P Q) := by unfold Fit2; infer_instance
def zAgree.f (k : Nat) (P : List (List Int)) (Q : List S42) (a1 : Int) (b : List Int) (keep : List Int) : Option Bool := if Fit2 P Q then some true else none
theorem zAgree.mono : ∀ a0 a1 a2 a3 a4 k, LeO (zAgree.f k a0 a1 a2 a3 a4) (zAgree.f (k + 1) a0 a1 a2 a3 a4) := fun _ _ _ _ _ _ => LeO.refl _
theorem zAgree.calls (k : Nat) (A0 : Option Addr) (c0 : Nat) (P : List (List Int)) (A1 : Option Addr) (c1 : Nat) (Q : List S42) (page : Int) (Ab : Option Addr) (cb : Nat) (b : List Int) (Ak : Option Addr) (ck : Nat) (keep : List Int) (r : Bool) (w : World)
    (h0 : Kd.C (Kd.slice 5 (Kd.int .u8)) w A0 P.length P) (h1 : P.length ≤ c0) (h2 : Kd.C k42 w A1 Q.length Q) (h3 : Q.length ≤ c1) (hb : Kd.C (Kd.int .u8) w Ab b.length b) (hcb : b.length ≤ cb) (hk : Kd.C (Kd.int .i64) w Ak keep.length keep) (hck : keep.length ≤ ck) (h : zAgree.f k P Q page b keep = some r) :
    Calls Try.prog 10 #[.agg #[.slice A0 P.length c0, .slice A1 Q.length c1], .int .i64 page, .slice Ab b.length cb, .slice Ak keep.length ck] w fun e w' => e = .returned (.bool r) ∧ Below w.heap.size w w' := by
  unfold zAgree.f at h
  split at h
  next hf =>
    obtain rfl := Option.some.inj h
    exact agree_ok A0 c0 P A1 c1 Q page Ab cb b Ak ck keep w ⟨h0, h1, h2, h3⟩ hf hb hcb hk hck
  next => cases h
def zFlush.f (k : Nat) (P : List (List Int)) (Q : List S42) : Option (List (List Int) × List S42 × Int) := if Fit2 P Q then some (crashV (fun _ => 64) P Q) else none
theorem zFlush.mono : ∀ a0 a1 k, LeO (zFlush.f k a0 a1) (zFlush.f (k + 1) a0 a1) := fun _ _ _ => LeO.refl _
theorem zFlush.calls (k : Nat) (A0 : Option Addr) (c0 : Nat) (P : List (List Int)) (A1 : Option Addr) (c1 : Nat) (Q : List S42) (r1 : List (List Int)) (r2 : List S42) (r3 : Int) (w : World)
    (h0 : Kd.C (Kd.slice 5 (Kd.int .u8)) w A0 P.length P) (h1 : P.length ≤ c0) (h2 : Kd.C k42 w A1 Q.length Q) (h3 : Q.length ≤ c1) (h : zFlush.f k P Q = some (r1, r2, r3)) :
    Calls Try.prog 11 #[.agg #[.slice A0 P.length c0, .slice A1 Q.length c1]] w fun e w' => ∃ v0_ v1_ : Value, e = .returned (.tuple #[.agg #[v0_, v1_], .int .i64 r3]) ∧ DvRes w w' A0 c0 P A1 c1 Q v0_ v1_ r1 r2 ∧ Below w.heap.size w w' := by
  unfold zFlush.f at h
  split at h
  next hf =>
    have hh := Option.some.inj h
    have := rflush_ok A0 c0 P A1 c1 Q w ⟨h0, h1, h2, h3⟩ hf
    rw [hh] at this
    exact this
  next => cases h
def zCrash.f (k : Nat) (P : List (List Int)) (Q : List S42) (keep : List Int) : Option (List (List Int) × List S42 × Int) := if Fit2 P Q then some (crashV (XD.keepAt keep) P Q) else none
theorem zCrash.mono : ∀ a0 a1 a2 k, LeO (zCrash.f k a0 a1 a2) (zCrash.f (k + 1) a0 a1 a2) := fun _ _ _ _ => LeO.refl _
theorem zCrash.calls (k : Nat) (A0 : Option Addr) (c0 : Nat) (P : List (List Int)) (A1 : Option Addr) (c1 : Nat) (Q : List S42) (Ak : Option Addr) (ck : Nat) (keep : List Int) (r1 : List (List Int)) (r2 : List S42) (r3 : Int) (w : World)
    (h0 : Kd.C (Kd.slice 5 (Kd.int .u8)) w A0 P.length P) (h1 : P.length ≤ c0) (h2 : Kd.C k42 w A1 Q.length Q) (h3 : Q.length ≤ c1) (hk : Kd.C (Kd.int .i64) w Ak keep.length keep) (hck : keep.length ≤ ck) (h : zCrash.f k P Q keep = some (r1, r2, r3)) :
    Calls Try.prog 12 #[.agg #[.slice A0 P.length c0, .slice A1 Q.length c1], .slice Ak keep.length ck] w fun e w' => ∃ v0_ v1_ : Value, e = .returned (.tuple #[.agg #[v0_, v1_], .int .i64 r3]) ∧ DvRes w w' A0 c0 P A1 c1 Q v0_ v1_ r1 r2 ∧ Below w.heap.size w w' := by
  unfold zCrash.f at h
  split at h
  next hf =>
    have hh := Option.some.inj h
    have := rcrash_ok A0 c0 P A1 c1 Q Ak ck keep w ⟨h0, h1, h2, h3⟩ hf hk
    rw [hh] at this
    exact this
  next => cases h
def zWrite.f (k : Nat) (P : List (List Int)) (Q : List S42) (page : Int) (b : List Int) : Option (List (List Int) × List S42 × Int) := if Fit2 P Q then some (writeV P Q page b) else none
theorem zWrite.mono : ∀ a0 a1 a2 a3 k, LeO (zWrite.f k a0 a1 a2 a3) (zWrite.f (k + 1) a0 a1 a2 a3) := fun _ _ _ _ _ => LeO.refl _
theorem zWrite.calls (k : Nat) (A0 : Option Addr) (c0 : Nat) (P : List (List Int)) (A1 : Option Addr) (c1 : Nat) (Q : List S42) (page : Int) (Ab : Option Addr) (cb : Nat) (b : List Int) (r1 : List (List Int)) (r2 : List S42) (r3 : Int) (w : World)
    (h0 : Kd.C (Kd.slice 5 (Kd.int .u8)) w A0 P.length P) (h1 : P.length ≤ c0) (h2 : Kd.C k42 w A1 Q.length Q) (h3 : Q.length ≤ c1) (hb : Kd.C (Kd.int .u8) w Ab b.length b) (hcb : b.length ≤ cb) (h : zWrite.f k P Q page b = some (r1, r2, r3)) :
    Calls Try.prog 13 #[.agg #[.slice A0 P.length c0, .slice A1 Q.length c1], .int .i64 page, .slice Ab b.length cb] w fun e w' => ∃ v0_ v1_ : Value, e = .returned (.tuple #[.agg #[v0_, v1_], .int .i64 r3]) ∧ DvRes w w' A0 c0 P A1 c1 Q v0_ v1_ r1 r2 ∧ Below w.heap.size w w' := by
  unfold zWrite.f at h
  split at h
  next hf =>
    have hh := Option.some.inj h
    have := rwrite_ok A0 c0 P A1 c1 Q page Ab cb b w ⟨h0, h1, h2, h3⟩ hf hb
    rw [hh] at this
    exact this
  next => cases h
end Go.Proofs.Ythpiafbloebpjaa.PDeviceSteps
