/- This file proves what packet.Decode computes, out of what packet.opened and codec.Int hand back. -/
import Derived.Test.YtgmiilolikbekaaXOpen
set_option linter.unusedVariables false
set_option linter.unusedSimpArgs false
namespace Go.Proofs.Ytgmiilolikbekaa.X
open Go.RowKit Go.Proofs.YtgmiilolikbekaaW.PrintWords Go.Proofs.YtgmiilolikbekaaW.PrintLast Go.Proofs.YtgmiilolikbekaaW.PrintMore

/-- What a call of codec.Int at some bytes hands back, whatever the world. -/
def IntAt (A1 : Option Addr) (c1 : Nat) (b : List Int) (at_ n nx e : Int) : Prop := ∀ W : World, Kd.C (Kd.int .u8) W A1 b.length b →
  Calls Try.prog 32 #[.slice A1 b.length c1, .int .i64 at_] W fun x w' => x = .returned (.tuple #[.int .i64 n, .int .i64 nx, .int .i64 e]) ∧ Drawn0 W w'
set_option maxHeartbeats 4000000 in
set_option maxRecDepth 1000000 in
theorem decode_err (A0 : Option Addr) (c0 : Nat) (l0 : List Int) (w : World) (E : Int) (hE : E ≠ 0)
    (ho : Aside0 (Calls Try.prog 31 #[.slice A0 l0.length c0] w fun e w' => e = .returned (.tuple #[.slice none 0 0, .int .i64 E]) ∧ Below w.heap.size w w')) :
    Calls Try.prog 20 #[.slice A0 l0.length c0] w fun e w' => e = .returned (.tuple #[.slice none 0 0, .int .i64 E]) ∧ Below w.heap.size w w' := by
  have d : (E != 0) = true := bne_iff_ne.mpr hE
  go_enter Try.func20, Try.ntmps20
  go_wp2_with (first | (go_at_call 31; refine ho.out.mono ?_; rintro e w1 ⟨rfl, hb1⟩))
  go_ret2
  exact ⟨rfl, hb1⟩
set_option maxHeartbeats 4000000 in
set_option maxRecDepth 1000000 in
theorem decode_count (A0 : Option Addr) (c0 : Nat) (l0 : List Int) (w : World) (A1 : Option Addr) (c1 : Nat) (b : List Int) (n nx e : Int) (he : e ≠ 0 ∨ n < 0 ∨ 2000 < n)
    (ho : Aside0 (Calls Try.prog 31 #[.slice A0 l0.length c0] w fun e w' => e = .returned (.tuple #[.slice A1 b.length c1, .int .i64 0]) ∧ Below w.heap.size w w'))
    (hr : Kd.C (Kd.int .u8) w A1 b.length b) (hi : IntAt A1 c1 b 0 n nx e) :
    Calls Try.prog 20 #[.slice A0 l0.length c0] w fun x w' => x = .returned (.tuple #[.slice none 0 0, .int .i64 (if e = 0 then 4 else e)]) ∧ Below w.heap.size w w' := by
  have HI := Aside0.mk hi
  by_cases h0 : e = 0
  · subst h0
    rw [if_pos rfl]
    have hn : n < 0 ∨ 2000 < n := by omega
    by_cases h1 : n < 0
    · have d1 : decide (n < 0) = true := decide_eq_true h1
      go_enter Try.func20, Try.ntmps20
      go_wp2_with (first | (go_at_call 31; refine ho.out.mono ?_; rintro e w1 ⟨rfl, hb1⟩) | (go_at_call 32; refine (HI.out _ (Kd.C_below hr hb1)).mono ?_; rintro e w2 ⟨rfl, nd, rfl⟩))
      go_ret2
      exact ⟨rfl, by repeat (first | (with_reducible first | exact hb1 | apply below_alloc | apply pw_below_drewN | apply below_drew1) | exact hb1)⟩
    · have h2 : 2000 < n := by omega
      have d1 : decide (n < 0) = false := decide_eq_false h1
      have d2 : decide (2000 < n) = true := decide_eq_true h2
      go_enter Try.func20, Try.ntmps20
      go_wp2_with (first | (go_at_call 31; refine ho.out.mono ?_; rintro e w1 ⟨rfl, hb1⟩) | (go_at_call 32; refine (HI.out _ (Kd.C_below hr hb1)).mono ?_; rintro e w2 ⟨rfl, nd, rfl⟩))
      go_ret2
      exact ⟨rfl, by repeat (first | (with_reducible first | exact hb1 | apply below_alloc | apply pw_below_drewN | apply below_drew1) | exact hb1)⟩
  · have d : (e != 0) = true := bne_iff_ne.mpr h0
    rw [if_neg h0]
    go_enter Try.func20, Try.ntmps20
    go_wp2_with (first | (go_at_call 31; refine ho.out.mono ?_; rintro e w1 ⟨rfl, hb1⟩) | (go_at_call 32; refine (HI.out _ (Kd.C_below hr hb1)).mono ?_; rintro e w2 ⟨rfl, nd, rfl⟩))
    go_ret2
    exact ⟨rfl, by repeat (first | (with_reducible first | exact hb1 | apply below_alloc | apply pw_below_drewN | apply below_drew1) | exact hb1)⟩
end Go.Proofs.Ytgmiilolikbekaa.X
