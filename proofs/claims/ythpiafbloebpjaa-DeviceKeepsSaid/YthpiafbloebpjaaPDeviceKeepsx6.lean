/- This file proves, function by function, what the Go functions that one law uses compute; most of it was printed by a program (wip/tools of this session, over the kit's print). -/
import Derived.Test.YthpiafbloebpjaaPDeviceKeepsx0
import Derived.Test.YthpiafbloebpjaaPDeviceKeepsx2
import Derived.Test.YthpiafbloebpjaaPDeviceKeepsx3
import Derived.Test.YthpiafbloebpjaaPDeviceKeepsx4
namespace Go.Proofs.Ythpiafbloebpjaa.PDeviceKeeps
open Go.RowKit Go.Proofs.YthpiafbloebpjaaW.PrintWords Go.Proofs.YthpiafbloebpjaaW.PrintLast Go.Proofs.YthpiafbloebpjaaW.PrintMore
attribute [local go_sem] max2_int min2_int max_two min_two max_three min_three max_four min_four   -- for this text's walks alone
set_option linter.unusedVariables false
set_option linter.unusedSimpArgs false

/-! ### device_Flush: function 15 -/
def device_Flush.f (k : Nat) (l0_0 : List (List Int)) (l0_1 : List (S42)) : Option ((List (List Int)) × (List (S42)) × Int) := (device_copied.f k l0_0 l0_1).bind fun t => (device_Valid.f k l0_0 l0_1).bind fun v => if v = true then (if fit t.1 t.2 = true then some (carr (fun _ => 64) t.2 t.1 t.2.length, [], 0) else none) else some (t.1, t.2, 23)
theorem device_Flush.mono : ∀ a0 a1 k, LeO (device_Flush.f k a0 a1) (device_Flush.f (k + 1) a0 a1) := by
  intro a0 a1 k
  unfold device_Flush.f
  exact LeO.bind (device_copied.mono _ _ _) (fun _ => LeO.bind (device_Valid.mono _ _ _) (fun _ => LeO.refl _))
set_option maxHeartbeats 8000000 in
set_option maxRecDepth 100000 in
theorem flush_ok (A0_0 : Option Addr) (c0_0 n0 : Nat) (A0_1 : Option Addr) (c0_1 n1 : Nat) (r1 : List (List Int)) (r2 : List (S42)) (r3 : Int) (w : World)
    (h : Aside0 (∀ W, Below w.heap.size w W → Calls Try.prog 25 #[.agg #[.slice A0_0 n0 c0_0, .slice A0_1 n1 c0_1], .func (.func 26) #[] #[]] W fun e w' => ∃ v0_ v1_ : Value, e = .returned (.tuple #[.agg #[v0_, v1_], .int .i64 r3]) ∧ Kd.S (Kd.slice 5 (Kd.int .u8)) 26 w' W.heap.size (fun _ => True) v0_ r1 ∧ Kd.S k42 42 w' W.heap.size (fun _ => True) v1_ r2 ∧ Below W.heap.size W w')) :
    Calls Try.prog 15 #[.agg #[.slice A0_0 n0 c0_0, .slice A0_1 n1 c0_1]] w fun e w' => ∃ v0_ v1_ : Value, e = .returned (.tuple #[.agg #[v0_, v1_], .int .i64 r3]) ∧ Kd.S (Kd.slice 5 (Kd.int .u8)) 26 w' w.heap.size (fun _ => True) v0_ r1 ∧ Kd.S k42 42 w' w.heap.size (fun _ => True) v1_ r2 ∧ Below w.heap.size w w' := by
  go_enter Try.func15, Try.ntmps15
  go_upto_region 1 with (fail)
  have HB0 := Aside0.mk (show Below w.heap.size w ((w.alloc (.cells #[.slice A0_0 n0 c0_0, .slice A0_1 n1 c0_1] 25)).alloc (.cells #[.slice none 0 0, .slice none 0 0] 25)) from ((Below.refl w.heap.size w).alloc (Nat.le_refl _) _).alloc (by simp) _)
  have HK2 := Aside0.mk (show ((w.alloc (.cells #[.slice A0_0 n0 c0_0, .slice A0_1 n1 c0_1] 25)).alloc (.cells #[.slice none 0 0, .slice none 0 0] 25)).heap[w.heap.size]? = some (.cells #[.slice A0_0 n0 c0_0, .slice A0_1 n1 c0_1] 25 (0, 0)) from blk_alloc (heap_alloc_new w _) _)
  have HK4 := Aside0.mk (show ((w.alloc (.cells #[.slice A0_0 n0 c0_0, .slice A0_1 n1 c0_1] 25)).alloc (.cells #[.slice none 0 0, .slice none 0 0] 25)).heap[w.heap.size + 1]? = some (.cells #[.slice none 0 0, .slice none 0 0] 25 (0, 0)) from by
    have := heap_alloc_new (w.alloc (.cells #[.slice A0_0 n0 c0_0, .slice A0_1 n1 c0_1] 25)) (.cells #[.slice none 0 0, .slice none 0 0] 25)
    rwa [World.size_alloc] at this)
  generalize ((w.alloc (.cells #[.slice A0_0 n0 c0_0, .slice A0_1 n1 c0_1] 25)).alloc (.cells #[.slice none 0 0, .slice none 0 0] 25)) = W0 at HB0 HK2 HK4 ⊢
  obtain ⟨g4, hg4⟩ : ∃ g4, g4 = w.heap.size + 1 := ⟨_, rfl⟩
  have hgl : w.heap.size ≤ g4 := by omega
  rw [← hg4] at HK4 ⊢
  clear hg4
  have k0 : W0.cell? ⟨w.heap.size, 0, none⟩ = some (.slice A0_0 n0 c0_0) := (blk_cell HK2.out 0).trans rfl
  have k1 : W0.cell? ⟨w.heap.size, 1, none⟩ = some (.slice A0_1 n1 c0_1) := (blk_cell HK2.out 1).trans rfl
  go_wp2_with fail
  go_at_call 25
  refine (h.out _ HB0.out).mono ?_
  rintro e w1 ⟨v0_, v1_, rfl, hp, hq, hb1⟩
  obtain ⟨Ap, cp, rfl⟩ := Kd.S_slice hp
  obtain ⟨Aq, cq, rfl⟩ := Kd.S_slice hq
  have HB1 := Aside0.mk (below_step HB0.out hb1)
  have HK5 := Aside0.mk (blk_below HK4.out hb1)
  have HP1 := Aside0.mk (Kd.S_lower hp HB0.out.size)
  have HQ1 := Aside0.mk (Kd.S_lower hq HB0.out.size)
  have HGL := Aside0.mk hgl
  clear hb1 hp hq k0 k1 HK2 HK4 HB0 hgl
  have z0 : w1.cell? ⟨g4, 0, none⟩ = some (.slice none 0 0) := (blk_cell HK5.out 0).trans rfl
  have z1 : w1.cell? ⟨g4, 1, none⟩ = some (.slice none 0 0) := (blk_cell HK5.out 1).trans rfl
  have y0 : w1.frozen? ⟨g4, 0, none⟩ = false := blk_frozen HK5.out 0
  have y1 : w1.frozen? ⟨g4, 1, none⟩ = false := blk_frozen HK5.out 1
  go_wp2_with fail
  have e1 := blk_set (blk_set HK5.out 0 (.slice Ap r1.length cp)) 1 (.slice Aq r2.length cq)
  exact bodyPost_ret (results_ct rfl _ _ g4 25 _ (0, 0) _ rfl e1 Try.underlying25 rfl (by kernel_rfl)) rfl ⟨_, _, rfl, Kd.S_set (Kd.S_set HP1.out HK5.out (by decide) 0 _) (blk_set HK5.out 0 _) (by decide) 1 _, Kd.S_set (Kd.S_set HQ1.out HK5.out (by decide) 0 _) (blk_set HK5.out 0 _) (by decide) 1 _, (HB1.out.setCell HGL.out _).setCell HGL.out _⟩
theorem device_Flush.calls (k : Nat) (A0_0 : Option Addr) (c0_0 : Nat) (l0_0 : List (List Int)) (A0_1 : Option Addr) (c0_1 : Nat) (l0_1 : List (S42)) (r1 : List (List Int)) (r2 : List (S42)) (r3 : Int) (w : World) (hr0_0 : Kd.C (Kd.slice 5 (Kd.int .u8)) w A0_0 l0_0.length l0_0) (hc0_0 : l0_0.length ≤ c0_0) (hr0_1 : Kd.C k42 w A0_1 l0_1.length l0_1) (hc0_1 : l0_1.length ≤ c0_1) (h : device_Flush.f k l0_0 l0_1 = some (r1, r2, r3)) :
    Calls Try.prog 15 #[.agg #[.slice A0_0 l0_0.length c0_0, .slice A0_1 l0_1.length c0_1]] w fun e w' => ∃ v0_ v1_ : Value, e = .returned (.tuple #[.agg #[v0_, v1_], .int .i64 r3]) ∧ Kd.S (Kd.slice 5 (Kd.int .u8)) 26 w' w.heap.size (fun _ => True) v0_ r1 ∧ Kd.S k42 42 w' w.heap.size (fun _ => True) v1_ r2 ∧ Below w.heap.size w w' := by
  obtain ⟨⟨P, Q⟩, ht, h⟩ := Option.bind_eq_some_iff.mp h
  obtain ⟨v, hv, h⟩ := Option.bind_eq_some_iff.mp h
  refine flush_ok A0_0 c0_0 l0_0.length A0_1 c0_1 l0_1.length r1 r2 r3 w ⟨fun W hb => ?_⟩
  have e0 := Kd.C_below hr0_0 hb
  have e1 := Kd.C_below hr0_1 hb
  cases v with
  | false =>
    replace h : some (P, Q, (23 : Int)) = some (r1, r2, r3) := h
    cases h
    exact carried_no k A0_0 c0_0 l0_0 A0_1 c0_1 l0_1 r1 r2 _ W e0 hc0_0 e1 hc0_1 ht hv
  | true =>
    replace h : (if fit P Q = true then some (carr (fun _ => 64) Q P Q.length, [], (0 : Int)) else none) = some (r1, r2, r3) := h
    by_cases hf : fit P Q = true
    · rw [if_pos hf] at h
      cases h
      obtain ⟨f1, f2, f3⟩ := fit_is hf
      exact (carried_yes (fun _ => 64) k A0_0 c0_0 l0_0 A0_1 c0_1 l0_1 P Q W e0 hc0_0 e1 hc0_1 ht hv f1 f2 f3 (fun _ => by decide) ⟨fun i W1 _ _ => XD.flush1_calls (i : Int) W1⟩).mono fun e w' ⟨v0, z1, z2, z3⟩ => ⟨v0, _, z1, z2, Kd.S_nil _ _ _ _ _, z3⟩
    · rw [if_neg hf] at h
      cases h

end Go.Proofs.Ythpiafbloebpjaa.PDeviceKeeps
