/- This file proves that a number needs a byte for each seven bits of its folded number. -/
import Derived.Test.YtemeojkmchgkjaaPCodecLengthsx2
import Derived.Test.YtemeojkmchgkjaaBase
set_option linter.unusedVariables false
namespace Go.Proofs.Ytemeojkmchgkjaa.Pure
open Go.RowKit Go.Proofs.Ytemeojkmchgkjaa.PCodecLengths Go.Proofs.YtemeojkmchgkjaaW.PrintWords Go.Proofs.YtemeojkmchgkjaaW.PrintLast Go.Proofs.YtemeojkmchgkjaaW.PrintMore Go.Proofs.Ytemeojkmchgkjaa.Base
/-! ### numbers as bytes -/
def foldN (n : Int) : Nat := if 0 ≤ n then (2 * n).toNat else (-2 * n - 1).toNat
theorem wu64 (n : Int) : IntKind.u64.wrap n = n % 18446744073709551616 := by
  have e : (2 : Int) ^ IntKind.u64.bits = 18446744073709551616 := rfl
  simp [IntKind.wrap, IntKind.bits, IntKind.signed]
theorem xor_ones (a : Nat) (h : a < 18446744073709551616) : Go.bits .xor .u64 (a : Int) 18446744073709551615 = ((18446744073709551615 - a : Nat) : Int) := by
  have e : BitVec.ofInt 64 18446744073709551615 = BitVec.allOnes 64 := by decide
  have e2 : BitVec.ofInt 64 (a : Int) = BitVec.ofNat 64 a := BitVec.ofInt_natCast 64 a
  show IntKind.u64.wrap ((BitVec.ofInt 64 (a : Int) ^^^ BitVec.ofInt 64 18446744073709551615).toNat : Int) = _
  rw [e, e2, BitVec.xor_allOnes, BitVec.toNat_not, BitVec.toNat_ofNat, wu64]
  have : (2 : Nat) ^ 64 = 18446744073709551616 := rfl
  omega
theorem xor_zero64 (a : Nat) (h : a < 18446744073709551616) : Go.bits .xor .u64 (a : Int) 0 = (a : Int) := by
  have e2 : BitVec.ofInt 64 (a : Int) = BitVec.ofNat 64 a := BitVec.ofInt_natCast 64 a
  have e : BitVec.ofInt 64 0 = 0#64 := by decide
  show IntKind.u64.wrap ((BitVec.ofInt 64 (a : Int) ^^^ BitVec.ofInt 64 0).toNat : Int) = _
  rw [e, e2, BitVec.xor_zero, BitVec.toNat_ofNat, wu64]
  have : (2 : Nat) ^ 64 = 18446744073709551616 := rfl
  omega
theorem foldN_lt {n : Int} (h1 : -9223372036854775808 ≤ n) (h2 : n ≤ 9223372036854775807) : foldN n < 18446744073709551616 := by unfold foldN; split <;> omega
theorem fold_is {n : Int} (h1 : -9223372036854775808 ≤ n) (h2 : n ≤ 9223372036854775807) : Go.bits .xor .u64 (IntKind.u64.wrap ((IntKind.u64.wrap n) * 2)) (IntKind.u64.wrap (n / 9223372036854775808)) = (foldN n : Int) := by
  rw [wu64, wu64, wu64]
  by_cases h : 0 ≤ n
  · have e1 : n % 18446744073709551616 * 2 % 18446744073709551616 = ((2 * n).toNat : Int) := by omega
    have e2 : n / 9223372036854775808 % 18446744073709551616 = 0 := by omega
    rw [e1, e2, xor_zero64 _ (by omega)]
    unfold foldN
    rw [if_pos h]
  · have e1 : n % 18446744073709551616 * 2 % 18446744073709551616 = ((2 * n + 18446744073709551616).toNat : Int) := by omega
    have e2 : n / 9223372036854775808 % 18446744073709551616 = 18446744073709551615 := by omega
    rw [e1, e2, xor_ones _ (by omega)]
    unfold foldN
    rw [if_neg h]
    omega
def encN (u : Nat) : List Int := if h : u < 128 then [(u : Int)] else ((u % 128 + 128 : Nat) : Int) :: encN (u / 128)
termination_by u
decreasing_by omega
theorem encN_short {u : Nat} (h : u < 128) : encN u = [(u : Int)] := by rw [encN, dif_pos h]
theorem encN_long {u : Nat} (h : ¬ u < 128) : encN u = ((u % 128 + 128 : Nat) : Int) :: encN (u / 128) := by rw [encN, dif_neg h]
theorem encN_pos (u : Nat) : 1 ≤ (encN u).length := by
  by_cases h : u < 128
  · rw [encN_short h]
    exact Nat.le_refl _
  · rw [encN_long h]
    simp
theorem encN_len : ∀ (k u : Nat), u < 128 ^ (k + 1) → (encN u).length ≤ k + 1
  | 0, u, h => by rw [encN_short (by simpa using h)]; exact Nat.le_refl _
  | k + 1, u, h => by
    by_cases hu : u < 128
    · rw [encN_short hu]
      simp
    · rw [encN_long hu]
      have := encN_len k (u / 128) (by rw [Nat.pow_succ] at h; exact Nat.div_lt_of_lt_mul (by rw [Nat.mul_comm]; exact h))
      simpa using this
theorem encN_ten {u : Nat} (h : u < 18446744073709551616) : (encN u).length ≤ 10 := encN_len 9 u (Nat.lt_of_lt_of_le h (by decide))
theorem encN_mono : ∀ (k u v : Nat), u < k → u ≤ v → (encN u).length ≤ (encN v).length
  | 0, u, v, h, _ => absurd h (Nat.not_lt_zero _)
  | k + 1, u, v, h, huv => by
    by_cases hu : u < 128
    · rw [encN_short hu]
      exact encN_pos v
    · rw [encN_long hu, encN_long (show ¬ v < 128 by omega)]
      have := encN_mono k (u / 128) (v / 128) (by omega) (by omega)
      simpa using this
theorem or_high : ∀ i < 256, Go.bits .or .u8 ((i : Nat) : Int) 128 = ((i % 128 + 128 : Nat) : Int) := by decide +kernel
theorem put_loop : ∀ (k u : Nat), u < k → ∀ (out : List Int), out.length + (encN u).length ≤ 140737488355328 → Ev (fun n => codec_PutInt.l0 n (u : Int) out) (out ++ encN u)
  | 0, u, h, _, _ => absurd h (Nat.not_lt_zero _)
  | k + 1, u, h, out, hb => by
    have hp := encN_pos u
    refine Ev.step (fun n => by rw [codec_PutInt.l0]) ?_
    by_cases hu : u < 128
    · refine Ev.neg (by omega) (Ev.pos (by omega) ?_)
      rw [encN_short hu]
      have e : (u : Int) % 256 = u := by omega
      rw [e]
      exact Ev.now _
    · rw [encN_long hu] at hb ⊢
      have hp' := encN_pos (u / 128)
      rw [List.length_cons] at hb
      refine Ev.pos (by omega) (Ev.pos (by omega) ?_)
      have e1 : (u : Int) / 128 = ((u / 128 : Nat) : Int) := by omega
      have e2 : (u : Int) % 256 = ((u % 256 : Nat) : Int) := by omega
      have e3 : u % 256 % 128 = u % 128 := by omega
      rw [e1, e2, or_high _ (by omega), e3]
      have := put_loop k (u / 128) (by omega) (out ++ [((u % 128 + 128 : Nat) : Int)]) (by rw [List.length_append, List.length_singleton]; omega)
      rw [List.append_assoc] at this
      exact this
theorem put_is {n : Int} (h1 : -9223372036854775808 ≤ n) (h2 : n ≤ 9223372036854775807) (l : List Int) (hl : l.length ≤ 1000000) : Ev (fun k => codec_PutInt.f k l n) (l ++ encN (foldN n)) := by
  have h3 := encN_ten (foldN_lt h1 h2)
  unfold codec_PutInt.f
  refine Ev.pos (by simp; omega) ?_
  rw [fold_is h1 h2, List.nil_append]
  exact put_loop _ _ (Nat.lt_succ_self _) l (by omega)
theorem awake_is : Ev (fun k => shapesearchlaw03_awake.f k) true := Ev.of shapesearchlaw03_awake.mono (k := 40) (by decide +kernel)
theorem folded_is {n : Int} (h1 : -9223372036854775808 ≤ n) (h2 : n ≤ 9223372036854775807) : shapesearchref03_Folded.f n = some (foldN n : Int) := by
  unfold shapesearchref03_Folded.f foldN
  by_cases h : 0 ≤ n
  · rw [if_pos h, if_pos h, wu64, wu64]
    congr 1
    omega
  · rw [if_neg h, if_neg h, w64 (n := n + 1) (by omega) (by omega), w64 (n := -(n + 1)) (by omega) (by omega), wu64, wu64, wu64]
    congr 1
    omega
theorem size_loop (a0 a1 : Int) (h1 : -9223372036854775808 ≤ a0) (h2 : a0 ≤ 9223372036854775807) (h3 : -9223372036854775808 ≤ a1) (h4 : a1 ≤ 9223372036854775807) :
    ∀ (k u s : Nat), u < k → u < 18446744073709551616 → s + (encN u).length = (encN (foldN a0)).length + 1 → EvP (fun n => shapesearchlaw03_CodecLengths.l0 n a0 a1 (encN (foldN a0)) (encN (foldN a1)) (s : Int) (u : Int)) (fun x => x = true)
  | 0, u, s, h, _, _ => absurd h (Nat.not_lt_zero _)
  | k + 1, u, s, h, hu, hs => by
    have h10 := encN_ten (foldN_lt h1 h2)
    have k10 := encN_ten (foldN_lt h3 h4)
    have kp := encN_pos (foldN a1)
    have hp := encN_pos u
    refine EvP.step (fun n => by rw [shapesearchlaw03_CodecLengths.l0]) ?_
    by_cases hc : u < 128
    · rw [encN_short hc, List.length_singleton] at hs
      refine EvP.neg (by omega) (EvP.pos (by omega) (EvP.pos (by omega) (EvP.pos (by omega) ?_)))
      rw [folded_is h1 h2, folded_is h3 h4]
      refine EvP.bind1 (Ev.now _) (EvP.bind1 (Ev.now _) ?_)
      refine EvP.ite (fun _ => EvP.bind1 awake_is (EvP.ret rfl)) (fun hd => ?_)
      have := encN_mono _ (foldN a0) (foldN a1) (Nat.lt_succ_self _) (by omega)
      exact EvP.pos (by omega) (EvP.bind1 awake_is (EvP.ret rfl))
    · rw [encN_long hc, List.length_cons] at hs
      refine EvP.pos (by omega) ?_
      have e : Int.tdiv (u : Int) 128 = ((u / 128 : Nat) : Int) := rfl
      have e2 : IntKind.u64.wrap ((u / 128 : Nat) : Int) = ((u / 128 : Nat) : Int) := by rw [wu64]; omega
      have hp2 := encN_pos (u / 128)
      rw [e, e2, w_succ (by omega)]
      exact size_loop a0 a1 h1 h2 h3 h4 k (u / 128) (s + 1) (by omega) (by omega) (by omega)
theorem CodecLengths : shapesearchlaw03_CodecLengths.Pure := by
  intro a0 a1 h1 h2
  have ha := b_i64 h1
  have hb := b_i64 h2
  refine EvP.rounds ?_
  unfold shapesearchlaw03_CodecLengths.f
  refine EvP.bind1 (put_is ha.1 ha.2 [] (by simp)) (EvP.bind1 (put_is hb.1 hb.2 [] (by simp)) ?_)
  rw [folded_is ha.1 ha.2]
  refine EvP.bind1 (Ev.now _) ?_
  rw [List.nil_append, List.nil_append]
  exact size_loop a0 a1 ha.1 ha.2 hb.1 hb.2 _ _ 1 (Nat.lt_succ_self _) (foldN_lt ha.1 ha.2) (by omega)

end Go.Proofs.Ytemeojkmchgkjaa.Pure
