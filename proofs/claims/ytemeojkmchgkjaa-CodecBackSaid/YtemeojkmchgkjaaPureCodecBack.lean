/- This file proves that a number is read as it was written, and that no shorter bytes are a number. -/
import Derived.Test.YtemeojkmchgkjaaPCodecBackx2
import Derived.Test.YtemeojkmchgkjaaBase
set_option linter.unusedVariables false
namespace Go.Proofs.Ytemeojkmchgkjaa.Pure
open Go.RowKit Go.Proofs.Ytemeojkmchgkjaa.PCodecBack Go.Proofs.YtemeojkmchgkjaaW.PrintWords Go.Proofs.YtemeojkmchgkjaaW.PrintLast Go.Proofs.YtemeojkmchgkjaaW.PrintMore Go.Proofs.Ytemeojkmchgkjaa.Base
/-! ### numbers as bytes -/
def foldN (n : Int) : Nat := if 0 ≤ n then (2 * n).toNat else (-2 * n - 1).toNat
theorem wu64 (n : Int) : IntKind.u64.wrap n = n % 18446744073709551616 := by
  have e : (2 : Int) ^ IntKind.u64.bits = 18446744073709551616 := rfl
  simp [IntKind.wrap, IntKind.bits, IntKind.signed]
theorem xor_ones (a : Nat) (h : a < 18446744073709551616) : Go.bits .xor .u64 (a : Int) 18446744073709551615 = ((18446744073709551615 - a : Nat) : Int) := by
  have e : BitVec.ofInt 64 18446744073709551615 = BitVec.allOnes 64 := by decide
  have e2 : BitVec.ofInt 64 (a : Int) = BitVec.ofNat 64 a := BitVec.ofInt_natCast 64 a
  show IntKind.u64.wrap ((BitVec.ofInt 64 (a : Int) ^^^ BitVec.ofInt 64 18446744073709551615).toNat : Int) = _
  rw [e, e2, BitVec.xor_allOnes, BitVec.toNat_not, BitVec.toNat_ofNat, wu64]
  have : (2 : Nat) ^ 64 = 18446744073709551616 := rfl
  omega
theorem xor_zero64 (a : Nat) (h : a < 18446744073709551616) : Go.bits .xor .u64 (a : Int) 0 = (a : Int) := by
  have e2 : BitVec.ofInt 64 (a : Int) = BitVec.ofNat 64 a := BitVec.ofInt_natCast 64 a
  have e : BitVec.ofInt 64 0 = 0#64 := by decide
  show IntKind.u64.wrap ((BitVec.ofInt 64 (a : Int) ^^^ BitVec.ofInt 64 0).toNat : Int) = _
  rw [e, e2, BitVec.xor_zero, BitVec.toNat_ofNat, wu64]
  have : (2 : Nat) ^ 64 = 18446744073709551616 := rfl
  omega
theorem foldN_lt {n : Int} (h1 : -9223372036854775808 ≤ n) (h2 : n ≤ 9223372036854775807) : foldN n < 18446744073709551616 := by unfold foldN; split <;> omega
theorem fold_is {n : Int} (h1 : -9223372036854775808 ≤ n) (h2 : n ≤ 9223372036854775807) : Go.bits .xor .u64 (IntKind.u64.wrap ((IntKind.u64.wrap n) * 2)) (IntKind.u64.wrap (n / 9223372036854775808)) = (foldN n : Int) := by
  rw [wu64, wu64, wu64]
  by_cases h : 0 ≤ n
  · have e1 : n % 18446744073709551616 * 2 % 18446744073709551616 = ((2 * n).toNat : Int) := by omega
    have e2 : n / 9223372036854775808 % 18446744073709551616 = 0 := by omega
    rw [e1, e2, xor_zero64 _ (by omega)]
    unfold foldN
    rw [if_pos h]
  · have e1 : n % 18446744073709551616 * 2 % 18446744073709551616 = ((2 * n + 18446744073709551616).toNat : Int) := by omega
    have e2 : n / 9223372036854775808 % 18446744073709551616 = 18446744073709551615 := by omega
    rw [e1, e2, xor_ones _ (by omega)]
    unfold foldN
    rw [if_neg h]
    omega
def encN (u : Nat) : List Int := if h : u < 128 then [(u : Int)] else ((u % 128 + 128 : Nat) : Int) :: encN (u / 128)
termination_by u
decreasing_by omega
theorem encN_short {u : Nat} (h : u < 128) : encN u = [(u : Int)] := by rw [encN, dif_pos h]
theorem encN_long {u : Nat} (h : ¬ u < 128) : encN u = ((u % 128 + 128 : Nat) : Int) :: encN (u / 128) := by rw [encN, dif_neg h]
theorem encN_pos (u : Nat) : 1 ≤ (encN u).length := by
  by_cases h : u < 128
  · rw [encN_short h]
    exact Nat.le_refl _
  · rw [encN_long h]
    simp
theorem encN_len : ∀ (k u : Nat), u < 128 ^ (k + 1) → (encN u).length ≤ k + 1
  | 0, u, h => by rw [encN_short (by simpa using h)]; exact Nat.le_refl _
  | k + 1, u, h => by
    by_cases hu : u < 128
    · rw [encN_short hu]
      simp
    · rw [encN_long hu]
      have := encN_len k (u / 128) (by rw [Nat.pow_succ] at h; exact Nat.div_lt_of_lt_mul (by rw [Nat.mul_comm]; exact h))
      simpa using this
theorem encN_ten {u : Nat} (h : u < 18446744073709551616) : (encN u).length ≤ 10 := encN_len 9 u (Nat.lt_of_lt_of_le h (by decide))
theorem encN_mono : ∀ (k u v : Nat), u < k → u ≤ v → (encN u).length ≤ (encN v).length
  | 0, u, v, h, _ => absurd h (Nat.not_lt_zero _)
  | k + 1, u, v, h, huv => by
    by_cases hu : u < 128
    · rw [encN_short hu]
      exact encN_pos v
    · rw [encN_long hu, encN_long (show ¬ v < 128 by omega)]
      have := encN_mono k (u / 128) (v / 128) (by omega) (by omega)
      simpa using this
theorem or_high : ∀ i < 256, Go.bits .or .u8 ((i : Nat) : Int) 128 = ((i % 128 + 128 : Nat) : Int) := by decide +kernel
theorem put_loop : ∀ (k u : Nat), u < k → ∀ (out : List Int), out.length + (encN u).length ≤ 140737488355328 → Ev (fun n => codec_PutInt.l0 n (u : Int) out) (out ++ encN u)
  | 0, u, h, _, _ => absurd h (Nat.not_lt_zero _)
  | k + 1, u, h, out, hb => by
    have hp := encN_pos u
    refine Ev.step (fun n => by rw [codec_PutInt.l0]) ?_
    by_cases hu : u < 128
    · refine Ev.neg (by omega) (Ev.pos (by omega) ?_)
      rw [encN_short hu]
      have e : (u : Int) % 256 = u := by omega
      rw [e]
      exact Ev.now _
    · rw [encN_long hu] at hb ⊢
      have hp' := encN_pos (u / 128)
      rw [List.length_cons] at hb
      refine Ev.pos (by omega) (Ev.pos (by omega) ?_)
      have e1 : (u : Int) / 128 = ((u / 128 : Nat) : Int) := by omega
      have e2 : (u : Int) % 256 = ((u % 256 : Nat) : Int) := by omega
      have e3 : u % 256 % 128 = u % 128 := by omega
      rw [e1, e2, or_high _ (by omega), e3]
      have := put_loop k (u / 128) (by omega) (out ++ [((u % 128 + 128 : Nat) : Int)]) (by rw [List.length_append, List.length_singleton]; omega)
      rw [List.append_assoc] at this
      exact this
theorem put_is {n : Int} (h1 : -9223372036854775808 ≤ n) (h2 : n ≤ 9223372036854775807) (l : List Int) (hl : l.length ≤ 1000000) : Ev (fun k => codec_PutInt.f k l n) (l ++ encN (foldN n)) := by
  have h3 := encN_ten (foldN_lt h1 h2)
  unfold codec_PutInt.f
  refine Ev.pos (by simp; omega) ?_
  rw [fold_is h1 h2, List.nil_append]
  exact put_loop _ _ (Nat.lt_succ_self _) l (by omega)
/-! ### bytes as numbers -/
theorem wi64 (n : Int) : IntKind.i64.wrap n = wrap64 n := by
  have e : (2 : Int) ^ IntKind.i64.bits = 18446744073709551616 := rfl
  simp [IntKind.wrap, IntKind.bits, IntKind.signed, wrap64] <;> omega
theorem xor_i64_ones {a : Nat} (h : a < 9223372036854775808) : Go.bits .xor .i64 (a : Int) (-1) = -(a : Int) - 1 := by
  have e : BitVec.ofInt 64 (-1) = BitVec.allOnes 64 := by decide
  have e2 : BitVec.ofInt 64 (a : Int) = BitVec.ofNat 64 a := BitVec.ofInt_natCast 64 a
  show IntKind.i64.wrap ((BitVec.ofInt 64 (a : Int) ^^^ BitVec.ofInt 64 (-1)).toNat : Int) = _
  rw [e, e2, BitVec.xor_allOnes, BitVec.toNat_not, BitVec.toNat_ofNat, wi64]
  have : (2 : Nat) ^ 64 = 18446744073709551616 := rfl
  unfold wrap64
  omega
theorem xor_i64_zero {a : Nat} (h : a < 9223372036854775808) : Go.bits .xor .i64 (a : Int) 0 = (a : Int) := by
  have e2 : BitVec.ofInt 64 (a : Int) = BitVec.ofNat 64 a := BitVec.ofInt_natCast 64 a
  have e : BitVec.ofInt 64 0 = 0#64 := by decide
  show IntKind.i64.wrap ((BitVec.ofInt 64 (a : Int) ^^^ BitVec.ofInt 64 0).toNat : Int) = _
  rw [e, e2, BitVec.xor_zero, BitVec.toNat_ofNat, wi64]
  have : (2 : Nat) ^ 64 = 18446744073709551616 := rfl
  unfold wrap64
  omega
theorem and_one {a : Nat} (h : a < 18446744073709551616) : Go.bits .and .u64 (a : Int) 1 = ((a % 2 : Nat) : Int) := by
  have e2 : BitVec.ofInt 64 (a : Int) = BitVec.ofNat 64 a := BitVec.ofInt_natCast 64 a
  have e : BitVec.ofInt 64 1 = 1#64 := by decide
  show IntKind.u64.wrap ((BitVec.ofInt 64 (a : Int) &&& BitVec.ofInt 64 1).toNat : Int) = _
  have k : (2 : Nat) ^ 64 = 18446744073709551616 := rfl
  rw [e, e2, BitVec.toNat_and, BitVec.toNat_ofNat, wu64]
  have e3 : (1#64).toNat = 1 := rfl
  rw [e3, Nat.and_one_is_mod, k, Nat.mod_eq_of_lt h]
  omega
theorem or_add {u x j : Nat} (hu : u < 2 ^ j) (h : u + x * 2 ^ j < 18446744073709551616) : Go.bits .or .u64 (u : Int) ((x * 2 ^ j : Nat) : Int) = ((u + x * 2 ^ j : Nat) : Int) := by
  have e2 : ∀ a : Nat, BitVec.ofInt 64 (a : Int) = BitVec.ofNat 64 a := fun a => BitVec.ofInt_natCast 64 a
  show IntKind.u64.wrap ((BitVec.ofInt 64 (u : Int) ||| BitVec.ofInt 64 ((x * 2 ^ j : Nat) : Int)).toNat : Int) = _
  have k : (2 : Nat) ^ 64 = 18446744073709551616 := rfl
  have e3 := Nat.two_pow_add_eq_or_of_lt hu x
  rw [Nat.mul_comm (2 ^ j) x, Nat.or_comm] at e3
  rw [e2, e2, BitVec.toNat_or, BitVec.toNat_ofNat, BitVec.toNat_ofNat, wu64, k, Nat.mod_eq_of_lt (show u < 18446744073709551616 by omega), Nat.mod_eq_of_lt (show x * 2 ^ j < 18446744073709551616 by omega), ← e3]
  omega
theorem and_low : ∀ i < 256, Go.bits .and .u8 ((i : Nat) : Int) 127 = ((i % 128 : Nat) : Int) := by decide +kernel
theorem unfold_is {n : Int} (h1 : -9223372036854775808 ≤ n) (h2 : n ≤ 9223372036854775807) : Go.bits .xor .i64 (wrap64 ((foldN n : Int) / 2)) (wrap64 (-(wrap64 (Go.bits .and .u64 (foldN n : Int) 1)))) = n := by
  have h3 := foldN_lt h1 h2
  rw [and_one h3]
  by_cases h : 0 ≤ n
  · have e : foldN n = (2 * n).toNat := if_pos h
    have e1 : (foldN n : Int) / 2 = (n.toNat : Int) := by omega
    have e2 : foldN n % 2 = 0 := by omega
    rw [e1, e2, w64 (by omega) (by omega)]
    have := xor_i64_zero (a := n.toNat) (by omega)
    have e3 : wrap64 (-(wrap64 ((0 : Nat) : Int))) = 0 := by unfold wrap64; omega
    rw [e3, this]
    omega
  · have e : foldN n = (-2 * n - 1).toNat := if_neg h
    have e1 : (foldN n : Int) / 2 = ((-n - 1).toNat : Int) := by omega
    have e2 : foldN n % 2 = 1 := by omega
    rw [e1, e2, w64 (by omega) (by omega)]
    have := xor_i64_ones (a := (-n - 1).toNat) (by omega)
    have e3 : wrap64 (-(wrap64 ((1 : Nat) : Int))) = -1 := by unfold wrap64; omega
    rw [e3, this]
    omega
theorem rd_mid (pre post : List Int) (x : Int) : rd (pre ++ x :: post) (pre.length : Int) = x := by
  rw [rd_nat _ _ (by simp)]
  simp
/-- One byte's part of a number. -/
theorem part_is {x u j v : Nat} (hx : x % 128 ≤ v) (hx8 : x < 256) (hu : u < 2 ^ (7 * j)) (hj : j ≤ 9) (h : u + v * 2 ^ (7 * j) < 18446744073709551616) :
    Go.bits .or .u64 (u : Int) (shl .u64 (IntKind.u64.wrap (Go.bits .and .u8 (x : Int) 127)) (wrap64 (7 * (j : Int)))) = ((u + x % 128 * 2 ^ (7 * j) : Nat) : Int) := by
  have hm : x % 128 * 2 ^ (7 * j) ≤ v * 2 ^ (7 * j) := Nat.mul_le_mul_right _ hx
  have e1 : wrap64 (7 * (j : Int)) = ((7 * j : Nat) : Int) := by rw [w64 (by omega) (by omega)]; omega
  have e2 : IntKind.u64.wrap ((x % 128 : Nat) : Int) = ((x % 128 : Nat) : Int) := by rw [wu64]; omega
  rw [and_low _ hx8, e1, e2]
  unfold shl
  have e3 : min ((7 * j : Nat) : Int).toNat IntKind.u64.bits = 7 * j := by
    have : IntKind.u64.bits = 64 := rfl
    rw [this]
    omega
  rw [e3, wu64]
  have e4 : ((x % 128 : Nat) : Int) * 2 ^ (7 * j) = ((x % 128 * 2 ^ (7 * j) : Nat) : Int) := by push_cast; rfl
  rw [e4]
  have e5 : ((x % 128 * 2 ^ (7 * j) : Nat) : Int) % 18446744073709551616 = ((x % 128 * 2 ^ (7 * j) : Nat) : Int) := by
    generalize x % 128 * 2 ^ (7 * j) = q at *
    omega
  rw [e5]
  exact or_add hu (by omega)
theorem nine {j v : Nat} (hv : 1 ≤ v) (h : v * 2 ^ (7 * j) < 18446744073709551616) : j ≤ 9 := by
  rcases Nat.lt_or_ge 9 j with hj | hj
  · have h1 : (2 : Nat) ^ 70 ≤ 2 ^ (7 * j) := Nat.pow_le_pow_right (by decide) (by omega)
    have h2 : 2 ^ (7 * j) ≤ v * 2 ^ (7 * j) := Nat.le_mul_of_pos_left _ hv
    have h3 : (2 : Nat) ^ 70 = 1180591620717411303424 := by decide
    omega
  · exact hj
theorem w_addn {a b c : Nat} (h : c = a + b) (hc : c ≤ 1000) : wrap64 ((a : Int) + (b : Int)) = (c : Int) := by rw [w64 (by omega) (by omega)]; omega
theorem w_sevn {j : Nat} (h : j ≤ 9) : wrap64 (7 * (j : Int)) = ((7 * j : Nat) : Int) := by rw [w64 (by omega) (by omega)]; omega
theorem mod_part (v : Nat) : (v % 128 + 128) % 128 ≤ v := by omega
theorem byte_part (v : Nat) : v % 128 + 128 < 256 := by omega
theorem int_loop (at_ : Nat) (hat : at_ ≤ 900) (n : Int) (h1 : -9223372036854775808 ≤ n) (h2 : n ≤ 9223372036854775807) :
    ∀ (m v : Nat), v < m → ∀ (pre post : List Int) (u j : Nat), pre.length = at_ + j → u < 2 ^ (7 * j) → u + v * 2 ^ (7 * j) = foldN n → (1 ≤ j → 1 ≤ v) →
      Ev (fun k => codec_Int.l0 k (pre ++ (encN v ++ post)) (at_ : Int) (u : Int) (j : Int)) (n, ((pre.length + (encN v).length : Nat) : Int), 0)
  | 0, v, h, _, _, _, _, _, _, _, _ => absurd h (Nat.not_lt_zero _)
  | m + 1, v, h, pre, post, u, j, hp, hu, hf, hv => by
    have hfl := foldN_lt h1 h2
    have hj : j ≤ 9 := by
      rcases Nat.eq_zero_or_pos j with h0 | h0
      · omega
      · exact nine (hv h0) (by omega)
    have hb : pre.length ≤ 1000 := by omega
    refine Ev.step (fun k => by rw [codec_Int.l0]) (Ev.pos (by omega) ?_)
    have hle : u + v * 2 ^ (7 * j) < 18446744073709551616 := by omega
    have ew := w_addn hp hb
    have e7 := w_sevn hj
    have es := w_succ (i := pre.length) (Nat.lt_of_le_of_lt hb (by decide))
    have ej := w_succ (i := j) (Nat.lt_of_le_of_lt hj (by decide))
    by_cases hc : v < 128
    · rw [encN_short hc, List.singleton_append, ew, rd_mid]
      have hpart := part_is (x := v) (v := v) (u := u) (j := j) (Nat.mod_le _ _) (Nat.lt_trans hc (by decide)) hu hj hle
      rw [Nat.mod_eq_of_lt hc, hf] at hpart
      have ef := unfold_is h1 h2
      rw [hpart, ef]
      simp only [es, e7, List.length_singleton]
      clear hpart ef es e7 ew ej
      have hl : (pre ++ (v : Int) :: post).length = pre.length + 1 + post.length := by simp; omega
      refine Ev.neg (by rw [hl]; omega) (Ev.pos (by omega) (Ev.pos (by rw [hl]; omega) (Ev.pos (by omega) (Ev.neg (by omega) ?_))))
      have last : Ev (fun k => if (j : Int) > 0 then (if (v : Int) = 0 then some ((0 : Int), (0 : Int), (3 : Int)) else some (n, ((pre.length + 1 : Nat) : Int), 0)) else some (n, ((pre.length + 1 : Nat) : Int), 0)) (n, ((pre.length + 1 : Nat) : Int), 0) := by
        by_cases h0 : 1 ≤ j
        · have := hv h0
          exact Ev.pos (by omega) (Ev.neg (by omega) (Ev.now _))
        · exact Ev.neg (by omega) (Ev.now _)
      by_cases h9 : j = 9
      · refine Ev.pos (by omega) (Ev.neg ?_ last)
        subst h9
        have : (2 : Nat) ^ (7 * 9) = 9223372036854775808 := by decide
        rw [this] at hf
        omega
      · exact Ev.neg (by omega) last
    · rw [encN_long hc, List.cons_append, ew, rd_mid]
      have hpart := part_is (x := v % 128 + 128) (v := v) (u := u) (j := j) (mod_part v) (byte_part v) hu hj hle
      rw [Nat.add_mod_right, Nat.mod_mod] at hpart
      rw [hpart]
      simp only [e7, ej]
      clear hpart e7 ej es ew
      have hl : (pre ++ ((v % 128 + 128 : Nat) : Int) :: (encN (v / 128) ++ post)).length = pre.length + 1 + (encN (v / 128)).length + post.length := by simp; omega
      refine Ev.neg (by rw [hl]; omega) (Ev.pos (by omega) (Ev.pos (by rw [hl]; omega) (Ev.pos (by omega) (Ev.pos (by omega) ?_))))
      have hpow : 2 ^ (7 * (j + 1)) = 128 * 2 ^ (7 * j) := by rw [show 7 * (j + 1) = 7 + 7 * j by omega, Nat.pow_add]
      have hdm : v = 128 * (v / 128) + v % 128 := (Nat.div_add_mod v 128).symm
      have := int_loop at_ hat n h1 h2 m (v / 128) (by omega) (pre ++ [((v % 128 + 128 : Nat) : Int)]) post (u + v % 128 * 2 ^ (7 * j)) (j + 1) (by rw [List.length_append, List.length_singleton]; omega)
        (by
          rw [hpow]
          have h5 : v % 128 * 2 ^ (7 * j) ≤ 127 * 2 ^ (7 * j) := Nat.mul_le_mul_right _ (by omega)
          omega) (by
          rw [hpow, ← hf]
          have h5 : v * 2 ^ (7 * j) = (128 * (v / 128) + v % 128) * 2 ^ (7 * j) := by rw [← hdm]
          rw [h5]
          grind) (by omega)
      rw [List.append_assoc, List.singleton_append, List.length_append, List.length_singleton] at this
      rw [List.length_cons, show pre.length + ((encN (v / 128)).length + 1) = pre.length + 1 + (encN (v / 128)).length by omega]
      exact this
theorem encN_ne (u : Nat) : encN u ≠ [] := fun h => by
  have := encN_pos u
  rw [h] at this
  exact absurd this (by decide)
theorem int_short (at_ : Nat) (hat : at_ ≤ 900) :
    ∀ (m v : Nat), v < m → ∀ (pre : List Int) (u : Int) (j : Nat), pre.length = at_ + j → j + (encN v).length ≤ 10 →
      Ev (fun k => codec_Int.l0 k (pre ++ (encN v).dropLast) (at_ : Int) u (j : Int)) ((0 : Int), (0 : Int), (2 : Int))
  | 0, v, h, _, _, _, _, _ => absurd h (Nat.not_lt_zero _)
  | m + 1, v, h, pre, u, j, hp, hl => by
    have hpos := encN_pos v
    have hj : j ≤ 9 := by omega
    have hb : pre.length ≤ 1000 := by omega
    refine Ev.step (fun k => by rw [codec_Int.l0]) (Ev.pos (by omega) ?_)
    have ew := w_addn hp hb
    have e7 := w_sevn hj
    have ej := w_succ (i := j) (Nat.lt_of_le_of_lt hj (by decide))
    by_cases hc : v < 128
    · rw [encN_short hc, List.dropLast_singleton, List.append_nil, ew]
      exact Ev.pos (Int.le_refl _) (Ev.now _)
    · rw [encN_long hc, List.dropLast_cons_of_ne_nil (encN_ne _), ew, rd_mid]
      rw [encN_long hc, List.length_cons] at hl
      simp only [e7, ej]
      clear e7 ej ew
      have hlen : (pre ++ ((v % 128 + 128 : Nat) : Int) :: (encN (v / 128)).dropLast).length = pre.length + 1 + (encN (v / 128)).dropLast.length := by simp; omega
      refine Ev.neg (by rw [hlen]; omega) (Ev.pos (by omega) (Ev.pos (by rw [hlen]; omega) (Ev.pos (by omega) (Ev.pos (by omega) ?_))))
      have := fun u' => int_short at_ hat m (v / 128) (by omega) (pre ++ [((v % 128 + 128 : Nat) : Int)]) u' (j + 1) (by rw [List.length_append, List.length_singleton]; omega) (by omega)
      rw [List.append_assoc, List.singleton_append] at this
      exact this _
theorem int_is (l post : List Int) (hl : l.length ≤ 900) {n : Int} (h1 : -9223372036854775808 ≤ n) (h2 : n ≤ 9223372036854775807) : Ev (fun k => codec_Int.f k (l ++ (encN (foldN n) ++ post)) (l.length : Int)) (n, ((l.length + (encN (foldN n)).length : Nat) : Int), 0) := by
  unfold codec_Int.f
  refine Ev.neg (by omega) ?_
  have e : decide ((l.length : Int) > ((l ++ (encN (foldN n) ++ post)).length : Int)) = false := decide_eq_false (by rw [List.length_append]; omega)
  rw [e]
  refine Ev.step (fun k => by rw [codec_Int.j0]) (Ev.neg (by decide) ?_)
  exact int_loop l.length hl n h1 h2 _ _ (Nat.lt_succ_self _) l post 0 0 rfl (by decide) (by simp) (by omega)
theorem int_cut (l : List Int) (hl : l.length ≤ 900) {n : Int} (h1 : -9223372036854775808 ≤ n) (h2 : n ≤ 9223372036854775807) : Ev (fun k => codec_Int.f k (l ++ (encN (foldN n)).dropLast) (l.length : Int)) ((0 : Int), (0 : Int), (2 : Int)) := by
  have h10 := encN_ten (foldN_lt h1 h2)
  unfold codec_Int.f
  refine Ev.neg (by omega) ?_
  have e : decide ((l.length : Int) > ((l ++ (encN (foldN n)).dropLast).length : Int)) = false := decide_eq_false (by rw [List.length_append]; omega)
  rw [e]
  refine Ev.step (fun k => by rw [codec_Int.j0]) (Ev.neg (by decide) ?_)
  exact int_short l.length hl _ _ (Nat.lt_succ_self _) l 0 0 rfl (by omega)
theorem awake_is : Ev (fun k => shapesearchlaw03_awake.f k) true := Ev.of shapesearchlaw03_awake.mono (k := 40) (by decide +kernel)
theorem j2_ok (l2 : List Int) (hl : l2.length ≤ 100) {n m : Int} (h1 : -9223372036854775808 ≤ n) (h2 : n ≤ 9223372036854775807) (h3 : -9223372036854775808 ≤ m) (h4 : m ≤ 9223372036854775807) :
    EvP (fun k => shapesearchlaw03_CodecBack.j2 k m l2 (l2 ++ (encN (foldN n) ++ encN (foldN m))) ((l2.length + (encN (foldN n)).length : Nat) : Int) false) (fun x => x = true) := by
  have hn := encN_ten (foldN_lt h1 h2)
  have hp := encN_pos (foldN n)
  have e1 := int_is (l2 ++ encN (foldN n)) [] (by rw [List.length_append]; omega) h3 h4
  have e2 := int_cut l2 (by omega) h1 h2
  have et : (l2 ++ (encN (foldN n) ++ encN (foldN m))).take (l2.length + (encN (foldN n)).length - 1) = l2 ++ (encN (foldN n)).dropLast := by
    rw [show l2.length + (encN (foldN n)).length - 1 = l2.length + ((encN (foldN n)).length - 1) by omega, List.take_length_add_append, List.take_append_of_le_length (by omega), ← List.dropLast_eq_take]
  rw [List.append_nil, List.append_assoc, List.length_append] at e1
  refine EvP.step (fun k => by rw [shapesearchlaw03_CodecBack.j2]) (EvP.neg (by decide) ?_)
  refine EvP.bind1 e1 ?_
  have ew : wrap64 (((l2.length + (encN (foldN n)).length : Nat) : Int) - 1) = ((l2.length + (encN (foldN n)).length - 1 : Nat) : Int) := by rw [w64 (by omega) (by omega)]; omega
  have hb : (l2 ++ (encN (foldN n) ++ encN (foldN m))).length = l2.length + (encN (foldN n)).length + (encN (foldN m)).length := by simp; omega
  rw [ew]
  clear ew
  refine EvP.pos (by omega) (EvP.pos (by rw [hb]; omega) ?_)
  rw [Int.toNat_natCast, et]
  refine EvP.bind1 e2 (EvP.pos rfl (EvP.pos rfl (EvP.pos ?_ (EvP.pos rfl (EvP.bind1 awake_is (EvP.ret rfl))))))
  rw [hb]
theorem j1_ok (l2 l3 : List Int) (hl : l2.length ≤ 100) (hl3 : l3.length ≤ 100) {n m : Int} (h1 : -9223372036854775808 ≤ n) (h2 : n ≤ 9223372036854775807) (h3 : -9223372036854775808 ≤ m) (h4 : m ≤ 9223372036854775807) :
    EvP (fun k => shapesearchlaw03_CodecBack.j1 k n m l2 l3 (l2 ++ (encN (foldN n) ++ encN (foldN m))) false) (fun x => x = true) := by
  have hn := encN_ten (foldN_lt h1 h2)
  have hm := encN_ten (foldN_lt h3 h4)
  have hp := encN_pos (foldN n)
  have hq := encN_pos (foldN m)
  have hb : (l2 ++ (encN (foldN n) ++ encN (foldN m))).length = l2.length + (encN (foldN n)).length + (encN (foldN m)).length := by simp; omega
  have e1 := int_is l2 (encN (foldN m) ++ l3) (by omega) h1 h2
  refine EvP.step (fun k => by rw [shapesearchlaw03_CodecBack.j1]) (EvP.neg (by decide) ?_)
  refine EvP.bind1 (Ev.now _) (EvP.pos (by rw [hb]; simp; omega) (EvP.bind1 (Ev.now _) (EvP.pos (by rw [List.nil_append, hb]; omega) ?_)))
  have ea : ([] : List Int) ++ (l2 ++ (encN (foldN n) ++ encN (foldN m))) ++ l3 = l2 ++ (encN (foldN n) ++ (encN (foldN m) ++ l3)) := by simp
  rw [ea]
  refine EvP.bind1 e1 (EvP.pos rfl (EvP.pos rfl (EvP.neg (by dsimp only; omega) ?_)))
  have e : decide (((l2.length + (encN (foldN n)).length : Nat) : Int) ≥ ((l2 ++ (encN (foldN n) ++ encN (foldN m))).length : Int)) = false := decide_eq_false (by rw [hb]; omega)
  dsimp only
  rw [e]
  exact j2_ok l2 hl h1 h2 h3 h4
theorem j0_ok (l2 l3 : List Int) (hl : l2.length ≤ 100) (hl3 : l3.length ≤ 100) {n m : Int} (h1 : -9223372036854775808 ≤ n) (h2 : n ≤ 9223372036854775807) (h3 : -9223372036854775808 ≤ m) (h4 : m ≤ 9223372036854775807) :
    EvP (fun k => shapesearchlaw03_CodecBack.j0 k n m l2 l3 false) (fun x => x = true) := by
  have hn := encN_ten (foldN_lt h1 h2)
  have hm := encN_ten (foldN_lt h3 h4)
  have hp := encN_pos (foldN n)
  have hq := encN_pos (foldN m)
  have hb : (l2 ++ (encN (foldN n) ++ encN (foldN m))).length = l2.length + (encN (foldN n)).length + (encN (foldN m)).length := by simp; omega
  refine EvP.step (fun k => by rw [shapesearchlaw03_CodecBack.j0]) (EvP.neg (by decide) ?_)
  refine EvP.bind1 (put_is h1 h2 l2 (by omega)) (EvP.bind1 (put_is h3 h4 _ (by rw [List.length_append]; omega)) ?_)
  rw [List.append_assoc]
  have e2 : wrap64 ((l2.length : Int) + 2) = (l2.length : Int) + 2 := w64 (by omega) (by omega)
  have e20 : wrap64 ((l2.length : Int) + 20) = (l2.length : Int) + 20 := w64 (by omega) (by omega)
  rw [e2, e20, hb]
  clear e2 e20
  refine EvP.neg (by omega) (EvP.neg (by omega) (EvP.pos (by omega) (EvP.pos (by omega) ?_)))
  rw [Int.toNat_natCast, List.take_left, bne_self_eq_false]
  exact j1_ok l2 l3 hl hl3 h1 h2 h3 h4
theorem j0_wide (n m : Int) (l2 l3 : List Int) : EvP (fun k => shapesearchlaw03_CodecBack.j0 k n m l2 l3 true) (fun x => x = true) := by
  refine EvP.step (fun k => by rw [shapesearchlaw03_CodecBack.j0]) (EvP.pos rfl ?_)
  exact EvP.bind1 awake_is (EvP.ret rfl)
theorem CodecBack : shapesearchlaw03_CodecBack.Pure := by
  intro a0 a1 l2 l3 h1 h2 h3 h4 h5 h6 h7 h8
  have ha := b_i64 h1
  have hb := b_i64 h2
  refine EvP.rounds ?_
  unfold shapesearchlaw03_CodecBack.f
  refine EvP.ite (fun _ => j0_wide _ _ _ _) (fun hc => ?_)
  by_cases h : (l3.length : Int) > 100
  · rw [decide_eq_true h]
    exact j0_wide _ _ _ _
  · rw [decide_eq_false h]
    exact j0_ok l2 l3 (by omega) (by omega) ha.1 ha.2 hb.1 hb.2

end Go.Proofs.Ytemeojkmchgkjaa.Pure
