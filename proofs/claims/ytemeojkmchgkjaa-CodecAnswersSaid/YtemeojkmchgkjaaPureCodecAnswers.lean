/- This file proves that both sides answer the same about numbers, widths, packed bytes and sums, whatever comes in. -/
import Derived.Test.YtemeojkmchgkjaaPCodecAnswersx9
import Derived.Test.YtemeojkmchgkjaaBase
import Derived.Test.YtemeojkmchgkjaaMathCrc
set_option linter.unusedVariables false
namespace Go.Proofs.Ytemeojkmchgkjaa.Pure
open Go.RowKit Go.Proofs.Ytemeojkmchgkjaa.PCodecAnswers Go.Proofs.YtemeojkmchgkjaaW.PrintWords Go.Proofs.YtemeojkmchgkjaaW.PrintLast Go.Proofs.YtemeojkmchgkjaaW.PrintMore Go.Proofs.Ytemeojkmchgkjaa.Base Go.Proofs.Ytemeojkmchgkjaa.X
/-! ### the checksum: each step can be taken back -/
def stepN (x c : Nat) : Nat := (crcT (x % 256 ^^^ c)).toNat ^^^ (x / 256)
theorem byte_xor {a b : Nat} (ha : a < 256) (hb : b < 256) : a ^^^ b < 256 := by
  have := Nat.xor_lt_two_pow (n := 8) ha hb
  exact this
theorem word_xor {a b : Nat} (ha : a < 4294967296) (hb : b < 4294967296) : a ^^^ b < 4294967296 := by
  have := Nat.xor_lt_two_pow (n := 32) ha hb
  exact this
theorem stepN_lt {x c : Nat} (hx : x < 4294967296) (hc : c < 256) : stepN x c < 4294967296 := by
  have hi := byte_xor (a := x % 256) (b := c) (by omega) hc
  obtain ⟨h1, h2, _⟩ := crcT_back _ hi
  exact word_xor (by omega) (by omega)
theorem step_is {x c : Nat} (hx : x < 4294967296) (hc : c < 256) : Go.bits .xor .u32 (crcT (Go.bits .xor .u8 ((x : Int) % 256) (c : Int)).toNat) ((x : Int) / 256) = (stepN x c : Int) := by
  have hi := byte_xor (a := x % 256) (b := c) (by omega) hc
  obtain ⟨h1, h2, _⟩ := crcT_back _ hi
  have e1 : ((x : Int) % 256) = ((x % 256 : Nat) : Int) := by omega
  have e2 : ((x : Int) / 256) = ((x / 256 : Nat) : Int) := by omega
  rw [e1, e2, xor_u8 _ _ (by omega) hc, Int.toNat_natCast]
  have e3 : crcT (x % 256 ^^^ c) = ((crcT (x % 256 ^^^ c)).toNat : Int) := (Int.toNat_of_nonneg h1).symm
  rw [e3, xor_u32 _ _ (by omega) (by omega)]
  rfl
def Bts (l : List Int) : Prop := ∀ x ∈ l, 0 ≤ x ∧ x ≤ 255
/-! ### the law's own checksum: bit by bit -/
def stepB (y : Nat) : Nat := if y % 2 = 1 then y / 2 ^^^ 3988292384 else y / 2
def iterB : Nat → Nat → Nat
  | 0, y => y
  | n + 1, y => iterB n (stepB y)
theorem stepB_lt {y : Nat} (h : y < 4294967296) : stepB y < 4294967296 := by
  unfold stepB
  split
  · exact word_xor (by omega) (by omega)
  · omega
theorem and_one32 {a : Nat} (h : a < 4294967296) : Go.bits .and .u32 (a : Int) 1 = ((a % 2 : Nat) : Int) := by
  have e2 : BitVec.ofInt 32 (a : Int) = BitVec.ofNat 32 a := BitVec.ofInt_natCast 32 a
  have e : BitVec.ofInt 32 1 = 1#32 := by decide
  show IntKind.u32.wrap ((BitVec.ofInt 32 (a : Int) &&& BitVec.ofInt 32 1).toNat : Int) = _
  have k : (2 : Nat) ^ 32 = 4294967296 := rfl
  rw [e, e2, BitVec.toNat_and, BitVec.toNat_ofNat]
  have e3 : (1#32).toNat = 1 := rfl
  rw [e3, Nat.and_one_is_mod, k, Nat.mod_eq_of_lt h]
  have k2 : (2 : Int) ^ IntKind.u32.bits = 4294967296 := rfl
  exact wr_u32 _ (by omega) (by rw [k2]; omega)
theorem crcStep_is {y : Nat} (h : y < 4294967296) : crcStep (y : Int) = (stepB y : Int) := by
  unfold crcStep stepB
  rw [and_one32 h]
  have e : (y : Int) / 2 = ((y / 2 : Nat) : Int) := by omega
  by_cases c : y % 2 = 1
  · rw [if_pos c, if_pos (by omega), e]
    exact xor_u32 _ 3988292384 (by omega) (by decide)
  · rw [if_neg c, if_neg (by omega), e]
theorem crcIter_is : ∀ (n y : Nat), y < 4294967296 → crcIter n (y : Int) = (iterB n y : Int)
  | 0, _, _ => rfl
  | n + 1, y, h => by
    show crcIter n (crcStep (y : Int)) = _
    rw [crcStep_is h]
    exact crcIter_is n (stepB y) (stepB_lt h)
theorem iterB_lt : ∀ (n y : Nat), y < 4294967296 → iterB n y < 4294967296
  | 0, _, h => h
  | n + 1, y, h => iterB_lt n (stepB y) (stepB_lt h)
theorem stepB_lin (z w : Nat) : stepB (z ^^^ 2 * w) = stepB z ^^^ w := by
  have e1 : (z ^^^ 2 * w) % 2 = z % 2 := by
    have h := Nat.xor_mod_two_pow (a := z) (b := 2 * w) (n := 1)
    rw [Nat.pow_one, Nat.mul_mod_right, Nat.xor_zero] at h
    exact h
  have e2 : (z ^^^ 2 * w) / 2 = z / 2 ^^^ w := by
    have h := Nat.shiftRight_xor_distrib (a := z) (b := 2 * w) (i := 1)
    rw [Nat.shiftRight_eq_div_pow, Nat.shiftRight_eq_div_pow, Nat.shiftRight_eq_div_pow, Nat.pow_one, Nat.mul_div_cancel_left _ (by decide)] at h
    exact h
  unfold stepB
  rw [e1, e2]
  split
  · rw [Nat.xor_assoc, Nat.xor_comm w, Nat.xor_assoc]
  · rfl
theorem iterB_lin : ∀ (n z h : Nat), iterB n (z ^^^ 2 ^ n * h) = iterB n z ^^^ h
  | 0, z, h => by simp [iterB]
  | n + 1, z, h => by
    show iterB n (stepB (z ^^^ 2 ^ (n + 1) * h)) = iterB n (stepB z) ^^^ h
    have e : 2 ^ (n + 1) * h = 2 * (2 ^ n * h) := by rw [Nat.pow_succ, Nat.mul_comm (2 ^ n) 2, Nat.mul_assoc]
    rw [e, stepB_lin]
    exact iterB_lin n (stepB z) h
theorem split_byte (x : Nat) : x = (x % 256) ^^^ (256 * (x / 256)) := by
  apply Nat.eq_of_testBit_eq
  intro i
  rw [Nat.testBit_xor]
  have e1 := Nat.testBit_mod_two_pow (x := x) (j := 8) (i := i)
  have e2 := Nat.testBit_two_pow_mul (i := 8) (a := x / 256) (j := i)
  have e3 : (x / 2 ^ 8).testBit (i - 8) = x.testBit (i - 8 + 8) := Nat.testBit_div_two_pow x (i - 8)
  have k : (2 : Nat) ^ 8 = 256 := rfl
  rw [k] at e1 e2 e3
  rw [e1, e2, e3]
  by_cases h : i < 8
  · have h' : ¬ i ≥ 8 := by omega
    simp [h, h']
  · have h' : i ≥ 8 := by omega
    have e4 : i - 8 + 8 = i := by omega
    have e5 : 8 + (i - 8) = i := by omega
    simp [h, h', e4]
theorem step8 {x c : Nat} (hx : x < 4294967296) (hc : c < 256) : iterB 8 (x ^^^ c) = stepN x c := by
  have hi := byte_xor (a := x % 256) (b := c) (by omega) hc
  have e : x ^^^ c = (x % 256 ^^^ c) ^^^ 2 ^ 8 * (x / 256) := by
    conv => lhs; rw [split_byte x]
    rw [Nat.xor_assoc, Nat.xor_comm (256 * (x / 256)) c, ← Nat.xor_assoc]
  rw [e, iterB_lin]
  unfold stepN crcT
  rw [crcIter_is 8 _ (by omega), Int.toNat_natCast]
theorem refsum_is (l : List Int) (hb : Bts l) (hl : l.length ≤ 1000000) : Ev (fun k => shapesearchref03_Sum.f k l) (crc l) := by
  have key : ∀ (d i : Nat), i + d = l.length → ∀ x : Nat, x < 4294967296 → Ev (fun k => shapesearchref03_Sum.l0 k l (x : Int) (l.length : Int) (i : Int)) (Go.bits .xor .u32 4294967295 (crcFrom (x : Int) (l.drop i))) := by
    intro d
    induction d with
    | zero =>
      intro i hi x hx
      refine Ev.step (fun k => by rw [shapesearchref03_Sum.l0]) (Ev.neg (by omega) ?_)
      rw [show l.drop i = [] from List.drop_eq_nil_of_le (by omega)]
      exact Ev.now _
    | succ d ih =>
      intro i hi x hx
      have hlt : i < l.length := by omega
      have hc := hb _ (List.getElem_mem hlt)
      refine Ev.step (fun k => by rw [shapesearchref03_Sum.l0]) (Ev.pos (by omega) (Ev.pos (by omega) (Ev.pos (by omega) ?_)))
      rw [rd_nat l i hlt, List.drop_eq_getElem_cons hlt]
      generalize l[i] = c' at *
      obtain ⟨c, rfl⟩ := Int.eq_ofNat_of_zero_le hc.1
      have hc8 : c < 256 := by omega
      have e1 : Go.bits .xor .u32 (x : Int) ((c : Int) % 4294967296) = ((x ^^^ c : Nat) : Int) := by
        rw [show (c : Int) % 4294967296 = (c : Int) by omega]
        exact xor_u32 x c hx (by omega)
      have e2 : crcFrom (x : Int) ((c : Int) :: l.drop (i + 1)) = crcFrom (stepN x c : Int) (l.drop (i + 1)) := by
        show crcFrom (Go.bits .xor .u32 (crcT (Go.bits .xor .u8 ((x : Int) % 256) (c : Int)).toNat) ((x : Int) / 256)) _ = _
        rw [step_is hx hc8]
      rw [e1, e2]
      have goal := ih (i + 1) (by omega) (stepN x c) (stepN_lt hx hc8)
      rw [← step8 hx hc8] at goal ⊢
      have hy := word_xor (a := x) (b := c) hx (by omega)
      generalize x ^^^ c = y at *
      have inner : ∀ (e j : Nat), j + e = 8 → ∀ y : Nat, y < 4294967296 → ∀ R : Int, Ev (fun k => shapesearchref03_Sum.l0 k l (iterB e y : Int) (l.length : Int) ((i + 1 : Nat) : Int)) R → Ev (fun k => shapesearchref03_Sum.l1 k l (y : Int) (j : Int) (l.length : Int) (i : Int)) R := by
        intro e
        induction e with
        | zero =>
          intro j hj y hy R hR
          refine Ev.step (fun k => by rw [shapesearchref03_Sum.l1]) (Ev.neg (by omega) ?_)
          rw [w_succ (by omega)]
          exact hR
        | succ e ih2 =>
          intro j hj y hy R hR
          have hj1 : j + 1 + e = 8 := by omega
          refine Ev.step (fun k => by rw [shapesearchref03_Sum.l1]) (Ev.pos (by omega) ?_)
          rw [w_succ (by omega), and_one32 hy]
          have hR2 := ih2 (j + 1) hj1 (stepB y) (stepB_lt hy) R hR
          have es := crcStep_is hy
          unfold crcStep at es
          rw [and_one32 hy] at es
          by_cases c1 : ((y % 2 : Nat) : Int) = 1
          · rw [if_pos c1] at es
            rw [← es] at hR2
            exact Ev.pos c1 hR2
          · rw [if_neg c1] at es
            rw [← es] at hR2
            exact Ev.neg c1 hR2
      exact inner 8 0 rfl y hy _ goal
  exact key l.length 0 (by omega) 4294967295 (by decide)
/-! ### numbers as bytes -/
def foldN (n : Int) : Nat := if 0 ≤ n then (2 * n).toNat else (-2 * n - 1).toNat
theorem wu64 (n : Int) : IntKind.u64.wrap n = n % 18446744073709551616 := by
  have e : (2 : Int) ^ IntKind.u64.bits = 18446744073709551616 := rfl
  simp [IntKind.wrap, IntKind.bits, IntKind.signed]
theorem xor_ones (a : Nat) (h : a < 18446744073709551616) : Go.bits .xor .u64 (a : Int) 18446744073709551615 = ((18446744073709551615 - a : Nat) : Int) := by
  have e : BitVec.ofInt 64 18446744073709551615 = BitVec.allOnes 64 := by decide
  have e2 : BitVec.ofInt 64 (a : Int) = BitVec.ofNat 64 a := BitVec.ofInt_natCast 64 a
  show IntKind.u64.wrap ((BitVec.ofInt 64 (a : Int) ^^^ BitVec.ofInt 64 18446744073709551615).toNat : Int) = _
  rw [e, e2, BitVec.xor_allOnes, BitVec.toNat_not, BitVec.toNat_ofNat, wu64]
  have : (2 : Nat) ^ 64 = 18446744073709551616 := rfl
  omega
theorem xor_zero64 (a : Nat) (h : a < 18446744073709551616) : Go.bits .xor .u64 (a : Int) 0 = (a : Int) := by
  have e2 : BitVec.ofInt 64 (a : Int) = BitVec.ofNat 64 a := BitVec.ofInt_natCast 64 a
  have e : BitVec.ofInt 64 0 = 0#64 := by decide
  show IntKind.u64.wrap ((BitVec.ofInt 64 (a : Int) ^^^ BitVec.ofInt 64 0).toNat : Int) = _
  rw [e, e2, BitVec.xor_zero, BitVec.toNat_ofNat, wu64]
  have : (2 : Nat) ^ 64 = 18446744073709551616 := rfl
  omega
theorem foldN_lt {n : Int} (h1 : -9223372036854775808 ≤ n) (h2 : n ≤ 9223372036854775807) : foldN n < 18446744073709551616 := by unfold foldN; split <;> omega
theorem fold_is {n : Int} (h1 : -9223372036854775808 ≤ n) (h2 : n ≤ 9223372036854775807) : Go.bits .xor .u64 (IntKind.u64.wrap ((IntKind.u64.wrap n) * 2)) (IntKind.u64.wrap (n / 9223372036854775808)) = (foldN n : Int) := by
  rw [wu64, wu64, wu64]
  by_cases h : 0 ≤ n
  · have e1 : n % 18446744073709551616 * 2 % 18446744073709551616 = ((2 * n).toNat : Int) := by omega
    have e2 : n / 9223372036854775808 % 18446744073709551616 = 0 := by omega
    rw [e1, e2, xor_zero64 _ (by omega)]
    unfold foldN
    rw [if_pos h]
  · have e1 : n % 18446744073709551616 * 2 % 18446744073709551616 = ((2 * n + 18446744073709551616).toNat : Int) := by omega
    have e2 : n / 9223372036854775808 % 18446744073709551616 = 18446744073709551615 := by omega
    rw [e1, e2, xor_ones _ (by omega)]
    unfold foldN
    rw [if_neg h]
    omega
def encN (u : Nat) : List Int := if h : u < 128 then [(u : Int)] else ((u % 128 + 128 : Nat) : Int) :: encN (u / 128)
termination_by u
decreasing_by omega
theorem encN_short {u : Nat} (h : u < 128) : encN u = [(u : Int)] := by rw [encN, dif_pos h]
theorem encN_long {u : Nat} (h : ¬ u < 128) : encN u = ((u % 128 + 128 : Nat) : Int) :: encN (u / 128) := by rw [encN, dif_neg h]
theorem encN_pos (u : Nat) : 1 ≤ (encN u).length := by
  by_cases h : u < 128
  · rw [encN_short h]
    exact Nat.le_refl _
  · rw [encN_long h]
    simp
theorem encN_len : ∀ (k u : Nat), u < 128 ^ (k + 1) → (encN u).length ≤ k + 1
  | 0, u, h => by rw [encN_short (by simpa using h)]; exact Nat.le_refl _
  | k + 1, u, h => by
    by_cases hu : u < 128
    · rw [encN_short hu]
      simp
    · rw [encN_long hu]
      have := encN_len k (u / 128) (by rw [Nat.pow_succ] at h; exact Nat.div_lt_of_lt_mul (by rw [Nat.mul_comm]; exact h))
      simpa using this
theorem encN_ten {u : Nat} (h : u < 18446744073709551616) : (encN u).length ≤ 10 := encN_len 9 u (Nat.lt_of_lt_of_le h (by decide))
theorem or_high : ∀ i < 256, Go.bits .or .u8 ((i : Nat) : Int) 128 = ((i % 128 + 128 : Nat) : Int) := by decide +kernel
theorem put_loop : ∀ (k u : Nat), u < k → ∀ (out : List Int), out.length + (encN u).length ≤ 140737488355328 → Ev (fun n => codec_PutInt.l0 n (u : Int) out) (out ++ encN u)
  | 0, u, h, _, _ => absurd h (Nat.not_lt_zero _)
  | k + 1, u, h, out, hb => by
    have hp := encN_pos u
    refine Ev.step (fun n => by rw [codec_PutInt.l0]) ?_
    by_cases hu : u < 128
    · refine Ev.neg (by omega) (Ev.pos (by omega) ?_)
      rw [encN_short hu]
      have e : (u : Int) % 256 = u := by omega
      rw [e]
      exact Ev.now _
    · rw [encN_long hu] at hb ⊢
      have hp' := encN_pos (u / 128)
      rw [List.length_cons] at hb
      refine Ev.pos (by omega) (Ev.pos (by omega) ?_)
      have e1 : (u : Int) / 128 = ((u / 128 : Nat) : Int) := by omega
      have e2 : (u : Int) % 256 = ((u % 256 : Nat) : Int) := by omega
      have e3 : u % 256 % 128 = u % 128 := by omega
      rw [e1, e2, or_high _ (by omega), e3]
      have := put_loop k (u / 128) (by omega) (out ++ [((u % 128 + 128 : Nat) : Int)]) (by rw [List.length_append, List.length_singleton]; omega)
      rw [List.append_assoc] at this
      exact this
theorem put_is {n : Int} (h1 : -9223372036854775808 ≤ n) (h2 : n ≤ 9223372036854775807) (l : List Int) (hl : l.length ≤ 1000000) : Ev (fun k => codec_PutInt.f k l n) (l ++ encN (foldN n)) := by
  have h3 := encN_ten (foldN_lt h1 h2)
  unfold codec_PutInt.f
  refine Ev.pos (by simp; omega) ?_
  rw [fold_is h1 h2, List.nil_append]
  exact put_loop _ _ (Nat.lt_succ_self _) l (by omega)
/-! ### bytes as numbers -/
theorem wi64 (n : Int) : IntKind.i64.wrap n = wrap64 n := by
  have e : (2 : Int) ^ IntKind.i64.bits = 18446744073709551616 := rfl
  simp [IntKind.wrap, IntKind.bits, IntKind.signed, wrap64] <;> omega
theorem xor_i64_ones {a : Nat} (h : a < 9223372036854775808) : Go.bits .xor .i64 (a : Int) (-1) = -(a : Int) - 1 := by
  have e : BitVec.ofInt 64 (-1) = BitVec.allOnes 64 := by decide
  have e2 : BitVec.ofInt 64 (a : Int) = BitVec.ofNat 64 a := BitVec.ofInt_natCast 64 a
  show IntKind.i64.wrap ((BitVec.ofInt 64 (a : Int) ^^^ BitVec.ofInt 64 (-1)).toNat : Int) = _
  rw [e, e2, BitVec.xor_allOnes, BitVec.toNat_not, BitVec.toNat_ofNat, wi64]
  have : (2 : Nat) ^ 64 = 18446744073709551616 := rfl
  unfold wrap64
  omega
theorem xor_i64_zero {a : Nat} (h : a < 9223372036854775808) : Go.bits .xor .i64 (a : Int) 0 = (a : Int) := by
  have e2 : BitVec.ofInt 64 (a : Int) = BitVec.ofNat 64 a := BitVec.ofInt_natCast 64 a
  have e : BitVec.ofInt 64 0 = 0#64 := by decide
  show IntKind.i64.wrap ((BitVec.ofInt 64 (a : Int) ^^^ BitVec.ofInt 64 0).toNat : Int) = _
  rw [e, e2, BitVec.xor_zero, BitVec.toNat_ofNat, wi64]
  have : (2 : Nat) ^ 64 = 18446744073709551616 := rfl
  unfold wrap64
  omega
theorem and_one {a : Nat} (h : a < 18446744073709551616) : Go.bits .and .u64 (a : Int) 1 = ((a % 2 : Nat) : Int) := by
  have e2 : BitVec.ofInt 64 (a : Int) = BitVec.ofNat 64 a := BitVec.ofInt_natCast 64 a
  have e : BitVec.ofInt 64 1 = 1#64 := by decide
  show IntKind.u64.wrap ((BitVec.ofInt 64 (a : Int) &&& BitVec.ofInt 64 1).toNat : Int) = _
  have k : (2 : Nat) ^ 64 = 18446744073709551616 := rfl
  rw [e, e2, BitVec.toNat_and, BitVec.toNat_ofNat, wu64]
  have e3 : (1#64).toNat = 1 := rfl
  rw [e3, Nat.and_one_is_mod, k, Nat.mod_eq_of_lt h]
  omega
theorem or_add {u x j : Nat} (hu : u < 2 ^ j) (h : u + x * 2 ^ j < 18446744073709551616) : Go.bits .or .u64 (u : Int) ((x * 2 ^ j : Nat) : Int) = ((u + x * 2 ^ j : Nat) : Int) := by
  have e2 : ∀ a : Nat, BitVec.ofInt 64 (a : Int) = BitVec.ofNat 64 a := fun a => BitVec.ofInt_natCast 64 a
  show IntKind.u64.wrap ((BitVec.ofInt 64 (u : Int) ||| BitVec.ofInt 64 ((x * 2 ^ j : Nat) : Int)).toNat : Int) = _
  have k : (2 : Nat) ^ 64 = 18446744073709551616 := rfl
  have e3 := Nat.two_pow_add_eq_or_of_lt hu x
  rw [Nat.mul_comm (2 ^ j) x, Nat.or_comm] at e3
  rw [e2, e2, BitVec.toNat_or, BitVec.toNat_ofNat, BitVec.toNat_ofNat, wu64, k, Nat.mod_eq_of_lt (show u < 18446744073709551616 by omega), Nat.mod_eq_of_lt (show x * 2 ^ j < 18446744073709551616 by omega), ← e3]
  omega
theorem and_low : ∀ i < 256, Go.bits .and .u8 ((i : Nat) : Int) 127 = ((i % 128 : Nat) : Int) := by decide +kernel
theorem unfold_is {n : Int} (h1 : -9223372036854775808 ≤ n) (h2 : n ≤ 9223372036854775807) : Go.bits .xor .i64 (wrap64 ((foldN n : Int) / 2)) (wrap64 (-(wrap64 (Go.bits .and .u64 (foldN n : Int) 1)))) = n := by
  have h3 := foldN_lt h1 h2
  rw [and_one h3]
  by_cases h : 0 ≤ n
  · have e : foldN n = (2 * n).toNat := if_pos h
    have e1 : (foldN n : Int) / 2 = (n.toNat : Int) := by omega
    have e2 : foldN n % 2 = 0 := by omega
    rw [e1, e2, w64 (by omega) (by omega)]
    have := xor_i64_zero (a := n.toNat) (by omega)
    have e3 : wrap64 (-(wrap64 ((0 : Nat) : Int))) = 0 := by unfold wrap64; omega
    rw [e3, this]
    omega
  · have e : foldN n = (-2 * n - 1).toNat := if_neg h
    have e1 : (foldN n : Int) / 2 = ((-n - 1).toNat : Int) := by omega
    have e2 : foldN n % 2 = 1 := by omega
    rw [e1, e2, w64 (by omega) (by omega)]
    have := xor_i64_ones (a := (-n - 1).toNat) (by omega)
    have e3 : wrap64 (-(wrap64 ((1 : Nat) : Int))) = -1 := by unfold wrap64; omega
    rw [e3, this]
    omega
theorem rd_mid (pre post : List Int) (x : Int) : rd (pre ++ x :: post) (pre.length : Int) = x := by
  rw [rd_nat _ _ (by simp)]
  simp
/-- One byte's part of a number. -/
theorem part_is {x u j v : Nat} (hx : x % 128 ≤ v) (hx8 : x < 256) (hu : u < 2 ^ (7 * j)) (hj : j ≤ 9) (h : u + v * 2 ^ (7 * j) < 18446744073709551616) :
    Go.bits .or .u64 (u : Int) (shl .u64 (IntKind.u64.wrap (Go.bits .and .u8 (x : Int) 127)) (wrap64 (7 * (j : Int)))) = ((u + x % 128 * 2 ^ (7 * j) : Nat) : Int) := by
  have hm : x % 128 * 2 ^ (7 * j) ≤ v * 2 ^ (7 * j) := Nat.mul_le_mul_right _ hx
  have e1 : wrap64 (7 * (j : Int)) = ((7 * j : Nat) : Int) := by rw [w64 (by omega) (by omega)]; omega
  have e2 : IntKind.u64.wrap ((x % 128 : Nat) : Int) = ((x % 128 : Nat) : Int) := by rw [wu64]; omega
  rw [and_low _ hx8, e1, e2]
  unfold shl
  have e3 : min ((7 * j : Nat) : Int).toNat IntKind.u64.bits = 7 * j := by
    have : IntKind.u64.bits = 64 := rfl
    rw [this]
    omega
  rw [e3, wu64]
  have e4 : ((x % 128 : Nat) : Int) * 2 ^ (7 * j) = ((x % 128 * 2 ^ (7 * j) : Nat) : Int) := by push_cast; rfl
  rw [e4]
  have e5 : ((x % 128 * 2 ^ (7 * j) : Nat) : Int) % 18446744073709551616 = ((x % 128 * 2 ^ (7 * j) : Nat) : Int) := by
    generalize x % 128 * 2 ^ (7 * j) = q at *
    omega
  rw [e5]
  exact or_add hu (by omega)
theorem nine {j v : Nat} (hv : 1 ≤ v) (h : v * 2 ^ (7 * j) < 18446744073709551616) : j ≤ 9 := by
  rcases Nat.lt_or_ge 9 j with hj | hj
  · have h1 : (2 : Nat) ^ 70 ≤ 2 ^ (7 * j) := Nat.pow_le_pow_right (by decide) (by omega)
    have h2 : 2 ^ (7 * j) ≤ v * 2 ^ (7 * j) := Nat.le_mul_of_pos_left _ hv
    have h3 : (2 : Nat) ^ 70 = 1180591620717411303424 := by decide
    omega
  · exact hj
theorem w_addn {a b c : Nat} (h : c = a + b) (hc : c ≤ 1000) : wrap64 ((a : Int) + (b : Int)) = (c : Int) := by rw [w64 (by omega) (by omega)]; omega
theorem w_sevn {j : Nat} (h : j ≤ 9) : wrap64 (7 * (j : Int)) = ((7 * j : Nat) : Int) := by rw [w64 (by omega) (by omega)]; omega
theorem mod_part (v : Nat) : (v % 128 + 128) % 128 ≤ v := by omega
theorem byte_part (v : Nat) : v % 128 + 128 < 256 := by omega
theorem encN_ne (u : Nat) : encN u ≠ [] := fun h => by
  have := encN_pos u
  rw [h] at this
  exact absurd this (by decide)
/-! ### what is read was written so -/
theorem fold_surj (w : Nat) (h : w < 18446744073709551616) : ∃ n : Int, -9223372036854775808 ≤ n ∧ n ≤ 9223372036854775807 ∧ foldN n = w := by
  by_cases e : w % 2 = 0
  · exact ⟨((w / 2 : Nat) : Int), by omega, by omega, by unfold foldN; rw [if_pos (by omega)]; omega⟩
  · exact ⟨-((w / 2 : Nat) : Int) - 1, by omega, by omega, by unfold foldN; rw [if_neg (by omega)]; omega⟩
theorem pow_eight {j : Nat} (h : j ≤ 8) : (2 : Nat) ^ (7 * j) ≤ 72057594037927936 := by
  have : (2 : Nat) ^ (7 * j) ≤ 2 ^ 56 := Nat.pow_le_pow_right (by decide) (by omega)
  exact this
theorem pow_seven (j : Nat) : (2 : Nat) ^ (7 * (j + 1)) = 128 * 2 ^ (7 * j) := by rw [show 7 * (j + 1) = 7 + 7 * j by omega, Nat.pow_add]
/-! ### the law's own writer of numbers -/
theorem folded_is {n : Int} (h1 : -9223372036854775808 ≤ n) (h2 : n ≤ 9223372036854775807) : shapesearchref03_Folded.f n = some (foldN n : Int) := by
  unfold shapesearchref03_Folded.f foldN
  by_cases h : 0 ≤ n
  · rw [if_pos h, if_pos h, wu64, wu64]
    congr 1
    omega
  · rw [if_neg h, if_neg h, w64 (n := n + 1) (by omega) (by omega), w64 (n := -(n + 1)) (by omega) (by omega), wu64, wu64, wu64]
    congr 1
    omega
theorem refput_loop : ∀ (k u : Nat), u < k → u < 18446744073709551616 → ∀ (out : List Int), out.length + (encN u).length ≤ 140737488355328 → Ev (fun n => shapesearchref03_PutInt.l0 n out (u : Int)) (out ++ encN u)
  | 0, u, h, _, _, _ => absurd h (Nat.not_lt_zero _)
  | k + 1, u, h, h64, out, hb => by
    have hp := encN_pos u
    refine Ev.step (fun n => by rw [shapesearchref03_PutInt.l0]) ?_
    by_cases hu : u < 128
    · refine Ev.neg (by omega) (Ev.pos (by omega) ?_)
      rw [encN_short hu]
      have e : (u : Int) % 256 = u := by omega
      rw [e]
      exact Ev.now _
    · rw [encN_long hu] at hb ⊢
      have hp' := encN_pos (u / 128)
      rw [List.length_cons] at hb
      refine Ev.pos (by omega) (Ev.pos (by omega) ?_)
      have e1 : Int.tdiv (u : Int) 128 = ((u / 128 : Nat) : Int) := rfl
      have e2 : Int.tmod (u : Int) 128 = ((u % 128 : Nat) : Int) := rfl
      have e3 : IntKind.u64.wrap ((u / 128 : Nat) : Int) = ((u / 128 : Nat) : Int) := by rw [wu64]; omega
      have e4 : IntKind.u64.wrap (((u % 128 : Nat) : Int) + 128) % 256 = ((u % 128 + 128 : Nat) : Int) := by rw [wu64]; omega
      rw [e1, e2, e3, e4]
      have := refput_loop k (u / 128) (by omega) (by omega) (out ++ [((u % 128 + 128 : Nat) : Int)]) (by rw [List.length_append, List.length_singleton]; omega)
      rw [List.append_assoc] at this
      exact this
theorem refput_is {n : Int} (h1 : -9223372036854775808 ≤ n) (h2 : n ≤ 9223372036854775807) (l : List Int) (hl : l.length ≤ 1000000) : Ev (fun k => shapesearchref03_PutInt.f k l n) (l ++ encN (foldN n)) := by
  have h3 := encN_ten (foldN_lt h1 h2)
  unfold shapesearchref03_PutInt.f
  refine Ev.bind (Ev.now _) (Ev.pos (by simp; omega) ?_)
  rw [folded_is h1 h2, List.nil_append]
  exact Ev.bind (Ev.now _) (refput_loop _ _ (Nat.lt_succ_self _) (foldN_lt h1 h2) l (by omega))
/-! ### numbers out of a list -/
theorem keep_New (l0 : List Int) (h : ∀ x ∈ l0, (Lit.int .i64 x).wf = true) (hl : l0.length ≤ maxLen) : EvP (fun _ => shapesearchkeep_New.f l0) (fun r => Src r.1 r.2) := by
  have e : mn (l0.length : Int) 2000 = ((min l0.length 2000 : Nat) : Int) := by unfold mn; split <;> omega
  unfold shapesearchkeep_New.f
  rw [e]
  refine EvP.pos (by omega) (EvP.pos (by omega) (EvP.ret ?_))
  refine ⟨Int.le_refl _, by omega, by rw [List.length_take]; omega, fun x hx => b_i64 (h x (List.mem_of_mem_take hx))⟩
theorem keep_Raw (s : List Int) (a : Int) (h : Src s a) : EvP (fun _ => shapesearchkeep_Src_Raw.f s a) (fun r => Src s r.2 ∧ -9223372036854775808 ≤ r.1 ∧ r.1 ≤ 9223372036854775807) := by
  obtain ⟨h0, h1, h2, h3⟩ := h
  unfold shapesearchkeep_Src_Raw.f
  refine EvP.ite (fun hc => EvP.ret ⟨⟨h0, h1, h2, h3⟩, by omega, by omega⟩) (fun hc => ?_)
  have hw : wrap64 (a + 1) = a + 1 := w64 (by omega) (by omega)
  have hw2 : wrap64 (a + 1 - 1) = a := by rw [w64 (by omega) (by omega)]; omega
  rw [hw, hw2]
  have hm := h3 _ (rd_mem s a h0 (by omega))
  exact EvP.pos h0 (EvP.pos (by omega) (EvP.ret ⟨⟨by omega, by omega, h2, h3⟩, hm⟩))
theorem keep_Mod (a n : Int) (ha : -9223372036854775808 ≤ a) (ha' : a ≤ 9223372036854775807) (hn : 1 ≤ n) (hn' : n ≤ 9223372036854775807) : EvP (fun _ => shapesearchkeep_Mod.f a n) (fun t => 0 ≤ t ∧ t < n) := by
  have h1 := Int.tmod_lt_of_pos a (show 0 < n by omega)
  have h2 := Int.lt_tmod_of_pos a (show 0 < n by omega)
  unfold shapesearchkeep_Mod.f
  refine EvP.neg (by omega) (EvP.neg (by omega) (EvP.ite (fun hc => EvP.ret ?_) (fun hc => EvP.ret ?_)))
  · rw [w64 (by omega) (by omega)]
    omega
  · omega
theorem keep_N (s : List Int) (a n : Int) (h : Src s a) (hn : 1 ≤ n) (hn' : n ≤ 9223372036854775807) : EvP (fun _ => shapesearchkeep_Src_N.f s a n) (fun r => Src s r.2 ∧ 0 ≤ r.1 ∧ r.1 < n) := by
  unfold shapesearchkeep_Src_N.f
  refine EvP.bind (keep_Raw s a h) (fun x hx => EvP.bind (keep_Mod x.1 n hx.2.1 hx.2.2 hn hn') (fun t ht => EvP.ret ⟨hx.1, ht⟩))
theorem keep_Range (s : List Int) (a lo hi : Int) (h : Src s a) (hlo : -1000000000000 ≤ lo) (hlh : lo ≤ hi) (hhi : hi ≤ 1000000000000) : EvP (fun _ => shapesearchkeep_Src_Range.f s a lo hi) (fun r => Src s r.2 ∧ lo ≤ r.1 ∧ r.1 ≤ hi) := by
  have e1 : wrap64 (hi - lo) = hi - lo := w64 (by omega) (by omega)
  have e2 : wrap64 (hi - lo + 1) = hi - lo + 1 := w64 (by omega) (by omega)
  unfold shapesearchkeep_Src_Range.f
  rw [e1, e2]
  refine EvP.bind (keep_N s a (hi - lo + 1) h (by omega) (by omega)) (fun x hx => EvP.ret ⟨hx.1, ?_⟩)
  have e3 : wrap64 (lo + x.1) = lo + x.1 := w64 (by omega) (by omega)
  show lo ≤ wrap64 (lo + x.1) ∧ wrap64 (lo + x.1) ≤ hi
  rw [e3]
  omega
/-! ### strings of bytes -/
def bts (l : List Int) : Prop := ∀ x ∈ l, 0 ≤ x ∧ x ≤ 255
theorem toList_loop (bs : ByteArray) (d : Nat) : ∀ (i : Nat) (r : List UInt8), i + d = bs.size → ByteArray.toList.loop bs i r = r.reverse ++ bs.data.toList.drop i := by
  induction d with
  | zero =>
    intro i r hi
    unfold ByteArray.toList.loop
    rw [if_neg (by omega), show bs.data.toList.drop i = [] from List.drop_eq_nil_of_le (by rw [Array.length_toList]; show bs.size ≤ i; omega), List.append_nil]
  | succ d ih =>
    intro i r hi
    have hlt : i < bs.data.toList.length := by rw [Array.length_toList]; show i < bs.size; omega
    unfold ByteArray.toList.loop
    rw [if_pos (by omega), ih (i + 1) _ (by omega), List.drop_eq_getElem_cons hlt]
    have e : bs.get! i = bs.data.toList[i] := by
      rw [Array.getElem_toList]
      show bs.data[i]! = _
      exact getElem!_pos bs.data i (by rw [← Array.length_toList]; exact hlt)
    rw [e]
    simp
theorem toList_data (bs : ByteArray) : bs.toList = bs.data.toList := toList_loop bs bs.size 0 [] (by omega)
theorem str_inj {A B : List Int} (hA : bts A) (hB : bts B) (h : (strOfNums A).toList = (strOfNums B).toList) : A = B := by
  rw [toList_data, toList_data] at h
  have h' : A.map (fun n => UInt8.ofNat n.toNat) = B.map (fun n => UInt8.ofNat n.toNat) := h
  have back : ∀ C : List Int, bts C → (C.map (fun n => UInt8.ofNat n.toNat)).map (fun u => (u.toNat : Int)) = C := by
    intro C hC
    rw [List.map_map]
    refine (List.map_congr_left (fun x hx => ?_)).trans (List.map_id C)
    have := hC x hx
    show ((UInt8.ofNat x.toNat).toNat : Int) = x
    rw [UInt8.toNat_ofNat']
    omega
  rw [← back A hA, ← back B hB, h']
/-! ### what is written can be told apart -/
theorem encN_bts : ∀ (k u : Nat), u < k → bts (encN u)
  | 0, u, h => absurd h (Nat.not_lt_zero _)
  | k + 1, u, h => by
    intro x hx
    by_cases hu : u < 128
    · rw [encN_short hu] at hx
      have : x = (u : Int) := by simpa using hx
      omega
    · rw [encN_long hu] at hx
      rcases List.mem_cons.1 hx with rfl | hx
      · omega
      · exact encN_bts k (u / 128) (by omega) x hx
/-! ### readings out of a list -/
/-! ### numbers as both readers read them -/
def unf (u : Nat) : Int := if u % 2 = 0 then ((u / 2 : Nat) : Int) else -((u / 2 : Nat) : Int) - 1
def rdN : Nat → List Int → Nat → Nat → Int × Nat × Int
  | 0, _, _, _ => (0, 0, 3)
  | _ + 1, [], _, _ => (0, 0, 2)
  | d + 1, b :: s, u, j => if 128 ≤ b then rdN d s (u + b.toNat % 128 * 2 ^ (7 * j)) (j + 1) else (if (j = 9 ∧ 1 < b) ∨ (0 < j ∧ b = 0) then (0, 0, 3) else (unf (u + b.toNat * 2 ^ (7 * j)), j + 1, 0))
def place (p : Nat) (r : Int × Nat × Int) : Int × Int × Int := if r.2.2 = 0 then (r.1, ((p + r.2.1 : Nat) : Int), 0) else (0, 0, r.2.2)
theorem place_err (p : Nat) (r : Int × Nat × Int) : (place p r).2.2 = r.2.2 := by
  unfold place
  split
  · rename_i h
    exact h.symm
  · rfl
theorem place_ok {p : Nat} {r : Int × Nat × Int} (h : r.2.2 = 0) : place p r = (r.1, ((p + r.2.1 : Nat) : Int), 0) := if_pos h
theorem unf_fold (n : Int) : unf (foldN n) = n := by
  unfold unf foldN
  by_cases h : 0 ≤ n
  · rw [if_pos h, if_pos (by omega)]
    omega
  · rw [if_neg h, if_neg (by omega)]
    omega
theorem rdN_ok : ∀ (d : Nat) (s : List Int) (u j : Nat), (rdN d s u j).2.2 = 0 → j < (rdN d s u j).2.1 ∧ (rdN d s u j).2.1 ≤ j + s.length
  | 0, s, u, j, h => absurd (show (3 : Int) = 0 from h) (by decide)
  | d + 1, [], u, j, h => absurd (show (2 : Int) = 0 from h) (by decide)
  | d + 1, b :: s, u, j, h => by
    unfold rdN at h ⊢
    by_cases h1 : 128 ≤ b
    · rw [if_pos h1] at h ⊢
      have := rdN_ok d s _ _ h
      rw [List.length_cons]
      omega
    · rw [if_neg h1] at h ⊢
      by_cases h2 : (j = 9 ∧ 1 < b) ∨ (0 < j ∧ b = 0)
      · rw [if_pos h2] at h
        exact absurd (show (3 : Int) = 0 from h) (by decide)
      · rw [if_neg h2]
        rw [List.length_cons]
        dsimp only
        omega
theorem cint_loop (at_ : Nat) (hat : at_ ≤ 900) :
    ∀ (d j : Nat), j + d = 10 → ∀ (pre rest : List Int) (u : Nat), pre.length = at_ + j → u < 2 ^ (7 * j) → (∀ x ∈ rest, 0 ≤ x ∧ x ≤ 255) →
      Ev (fun k => codec_Int.l0 k (pre ++ rest) (at_ : Int) (u : Int) (j : Int)) (place at_ (rdN d rest u j))
  | 0, j, hj, pre, rest, u, hp, hu, hr => by
    show Ev _ ((0 : Int), (0 : Int), (3 : Int))
    exact Ev.step (fun k => by rw [codec_Int.l0]) (Ev.neg (by omega) (Ev.now _))
  | d + 1, j, hjd, pre, [], u, hp, hu, hr => by
    show Ev _ ((0 : Int), (0 : Int), (2 : Int))
    have hb : pre.length ≤ 1000 := by omega
    have ew := w_addn hp hb
    refine Ev.step (fun k => by rw [codec_Int.l0]) (Ev.pos (by omega) ?_)
    rw [ew, List.append_nil]
    exact Ev.pos (by omega) (Ev.now _)
  | d + 1, j, hjd, pre, c :: rest, u, hp, hu, hr => by
    have hj : j ≤ 9 := by omega
    have hb : pre.length ≤ 1000 := by omega
    have hc := hr c (List.mem_cons_self ..)
    obtain ⟨x, rfl⟩ := Int.eq_ofNat_of_zero_le hc.1
    have hx8 : x < 256 := by omega
    have hl : (pre ++ (x : Int) :: rest).length = pre.length + 1 + rest.length := by simp; omega
    have er : rdN (d + 1) ((x : Int) :: rest) u j = if 128 ≤ (x : Int) then rdN d rest (u + x % 128 * 2 ^ (7 * j)) (j + 1) else (if (j = 9 ∧ 1 < (x : Int)) ∨ (0 < j ∧ (x : Int) = 0) then (0, 0, 3) else (unf (u + x * 2 ^ (7 * j)), j + 1, 0)) := rfl
    rw [er]
    clear er
    have g1 : x < 128 → ¬ 128 ≤ (x : Int) := fun h => by omega
    have g2 : ¬ x < 128 → 128 ≤ (x : Int) := fun h => by omega
    have g3 : (j = 9 ∧ 1 < x) → ((j = 9 ∧ 1 < (x : Int)) ∨ (0 < j ∧ (x : Int) = 0)) := fun h => by omega
    have g4 : (1 ≤ j ∧ x = 0) → ((j = 9 ∧ 1 < (x : Int)) ∨ (0 < j ∧ (x : Int) = 0)) := fun h => by omega
    have g5 : ¬ (j = 9 ∧ 1 < x) → ¬ (1 ≤ j ∧ x = 0) → ¬ ((j = 9 ∧ 1 < (x : Int)) ∨ (0 < j ∧ (x : Int) = 0)) := fun h h' => by omega
    have g6 : j = 9 → d = 0 := fun h => by omega
    have g7 : (j : Int) < 10 := by omega
    refine Ev.step (fun k => by rw [codec_Int.l0]) (Ev.pos g7 ?_)
    have ew := w_addn hp hb
    have e7 := w_sevn hj
    have es := w_succ (i := pre.length) (Nat.lt_of_le_of_lt hb (by decide))
    have ej := w_succ (i := j) (Nat.lt_of_le_of_lt hj (by decide))
    rw [ew, rd_mid]
    by_cases hc : x < 128
    · rw [if_neg (g1 hc)]
      by_cases h9 : j = 9 ∧ 1 < x
      · rw [if_pos (g3 h9)]
        simp only [e7]
        clear ew e7 es ej
        show Ev _ ((0 : Int), (0 : Int), (3 : Int))
        exact Ev.neg (by rw [hl]; omega) (Ev.pos (by omega) (Ev.pos (by rw [hl]; omega) (Ev.pos (by omega) (Ev.neg (by omega) (Ev.pos (by omega) (Ev.pos (by omega) (Ev.now _)))))))
      by_cases h0 : 1 ≤ j ∧ x = 0
      · rw [if_pos (g4 h0)]
        simp only [e7]
        clear ew e7 es ej
        show Ev _ ((0 : Int), (0 : Int), (3 : Int))
        refine Ev.neg (by rw [hl]; omega) (Ev.pos (by omega) (Ev.pos (by rw [hl]; omega) (Ev.pos (by omega) (Ev.neg (by omega) ?_))))
        by_cases h9' : j = 9
        · exact Ev.pos (by omega) (Ev.neg (by omega) (Ev.pos (by omega) (Ev.pos (by omega) (Ev.now _))))
        · exact Ev.neg (by omega) (Ev.pos (by omega) (Ev.pos (by omega) (Ev.now _)))
      have hle : u + x * 2 ^ (7 * j) < 18446744073709551616 := by
        clear ew e7 es ej
        by_cases h9' : j = 9
        · subst h9'
          have e9 : (2 : Nat) ^ (7 * 9) = 9223372036854775808 := by decide
          rw [e9] at hu ⊢
          omega
        · have h8 := pow_eight (j := j) (by omega)
          have h5 : x * 2 ^ (7 * j) ≤ 127 * 2 ^ (7 * j) := Nat.mul_le_mul_right _ (by omega)
          omega
      obtain ⟨n, n1, n2, hn⟩ := fold_surj _ hle
      have hpart := part_is (x := x) (v := x) (u := u) (j := j) (Nat.mod_le _ _) hx8 hu hj hle
      rw [Nat.mod_eq_of_lt hc, ← hn] at hpart
      have ef := unfold_is n1 n2
      rw [hpart, ef, ← hn, unf_fold]
      simp only [es, e7]
      clear hpart ef es e7 ew ej
      rw [if_neg (g5 h9 h0)]
      have fin : place at_ (n, j + 1, 0) = (n, ((pre.length + 1 : Nat) : Int), 0) := by rw [hp]; rfl
      rw [fin]
      refine Ev.neg (by rw [hl]; omega) (Ev.pos (by omega) (Ev.pos (by rw [hl]; omega) (Ev.pos (by omega) (Ev.neg (by omega) ?_))))
      have last : Ev (fun k => if (j : Int) > 0 then (if (x : Int) = 0 then some ((0 : Int), (0 : Int), (3 : Int)) else some (n, ((pre.length + 1 : Nat) : Int), 0)) else some (n, ((pre.length + 1 : Nat) : Int), 0)) (n, ((pre.length + 1 : Nat) : Int), 0) := by
        by_cases h1 : 1 ≤ j
        · exact Ev.pos (by omega) (Ev.neg (by omega) (Ev.now _))
        · exact Ev.neg (by omega) (Ev.now _)
      by_cases h9' : j = 9
      · exact Ev.pos (by omega) (Ev.neg (by omega) last)
      · exact Ev.neg (by omega) last
    · rw [if_pos (g2 hc)]
      by_cases h9 : j = 9
      · have hd : d = 0 := g6 h9
        subst hd
        simp only [e7, ej]
        clear ew e7 es ej
        show Ev _ ((0 : Int), (0 : Int), (3 : Int))
        refine Ev.neg (by rw [hl]; omega) (Ev.pos (by omega) (Ev.pos (by rw [hl]; omega) (Ev.pos (by omega) (Ev.pos (by omega) ?_))))
        exact Ev.step (fun k => by rw [codec_Int.l0]) (Ev.neg (by omega) (Ev.now _))
      · have h8 := pow_eight (j := j) (by clear ew e7 es ej; omega)
        have h5 : x % 128 * 2 ^ (7 * j) ≤ 127 * 2 ^ (7 * j) := Nat.mul_le_mul_right _ (by clear ew e7 es ej; omega)
        have hpart := part_is (x := x) (v := x % 128) (u := u) (j := j) (Nat.le_refl _) hx8 hu hj (by clear ew e7 es ej; omega)
        rw [hpart]
        simp only [e7, ej]
        clear hpart e7 ej es ew
        refine Ev.neg (by rw [hl]; omega) (Ev.pos (by omega) (Ev.pos (by rw [hl]; omega) (Ev.pos (by omega) (Ev.pos (by omega) ?_))))
        have hpow := pow_seven j
        have ih := cint_loop at_ hat d (j + 1) (by omega) (pre ++ [(x : Int)]) rest (u + x % 128 * 2 ^ (7 * j)) (by rw [List.length_append, List.length_singleton]; omega) (by rw [hpow]; omega) (fun y hy => hr y (List.mem_cons_of_mem _ hy))
        rw [List.append_assoc, List.singleton_append] at ih
        exact ih
theorem part_add {x u j : Nat} (hj : j ≤ 9) (h : u + x % 128 * 2 ^ (7 * j) < 18446744073709551616) : IntKind.u64.wrap ((u : Int) + shl .u64 (IntKind.u64.wrap (Int.tmod (x : Int) 128)) (wrap64 (7 * (j : Int)))) = ((u + x % 128 * 2 ^ (7 * j) : Nat) : Int) := by
  have e0 : Int.tmod (x : Int) 128 = ((x % 128 : Nat) : Int) := rfl
  have e1 := w_sevn hj
  have e2 : IntKind.u64.wrap ((x % 128 : Nat) : Int) = ((x % 128 : Nat) : Int) := by rw [wu64]; omega
  rw [e0, e1, e2]
  unfold shl
  have e3 : min ((7 * j : Nat) : Int).toNat IntKind.u64.bits = 7 * j := by
    have : IntKind.u64.bits = 64 := rfl
    rw [this]
    omega
  rw [e3]
  have e4 : ((x % 128 : Nat) : Int) * 2 ^ (7 * j) = ((x % 128 * 2 ^ (7 * j) : Nat) : Int) := by push_cast; rfl
  rw [e4, wu64, wu64]
  clear e1 e2 e3 e4
  generalize x % 128 * 2 ^ (7 * j) = q at *
  omega
theorem unfolded_is {u : Nat} (h : u < 18446744073709551616) : shapesearchref03_unfolded.f (u : Int) = some (unf u) := by
  have e1 : Int.tmod (u : Int) 2 = ((u % 2 : Nat) : Int) := rfl
  have e2 : Int.tdiv (u : Int) 2 = ((u / 2 : Nat) : Int) := rfl
  have e3 : IntKind.u64.wrap ((u / 2 : Nat) : Int) = ((u / 2 : Nat) : Int) := by rw [wu64]; omega
  have e4 : wrap64 ((u / 2 : Nat) : Int) = ((u / 2 : Nat) : Int) := w64 (by omega) (by omega)
  have e5 : wrap64 (-((u / 2 : Nat) : Int)) = -((u / 2 : Nat) : Int) := w64 (by omega) (by omega)
  have e6 : wrap64 (-((u / 2 : Nat) : Int) - 1) = -((u / 2 : Nat) : Int) - 1 := w64 (by omega) (by omega)
  unfold shapesearchref03_unfolded.f unf
  rw [e1, e2, e3, e4, e5, e6]
  by_cases c : u % 2 = 0
  · rw [if_pos (show ((u % 2 : Nat) : Int) = 0 by omega), if_pos c]
  · rw [if_neg (show ¬ ((u % 2 : Nat) : Int) = 0 by omega), if_neg c]
theorem rint_loop (at_ : Nat) (hat : at_ ≤ 900) :
    ∀ (d j : Nat), j + d = 10 → ∀ (pre rest : List Int) (u : Nat), pre.length = at_ + j → u < 2 ^ (7 * j) → (∀ x ∈ rest, 0 ≤ x ∧ x ≤ 255) →
      Ev (fun k => shapesearchref03_Int.l0 k (pre ++ rest) (at_ : Int) (u : Int) (j : Int)) (place at_ (rdN d rest u j))
  | 0, j, hj, pre, rest, u, hp, hu, hr => by
    show Ev _ ((0 : Int), (0 : Int), (3 : Int))
    exact Ev.step (fun k => by rw [shapesearchref03_Int.l0]) (Ev.neg (by omega) (Ev.now _))
  | d + 1, j, hjd, pre, [], u, hp, hu, hr => by
    show Ev _ ((0 : Int), (0 : Int), (2 : Int))
    have hb : pre.length ≤ 1000 := by omega
    have ew := w_addn hp hb
    refine Ev.step (fun k => by rw [shapesearchref03_Int.l0]) (Ev.pos (by omega) ?_)
    rw [ew, List.append_nil]
    exact Ev.pos (by omega) (Ev.now _)
  | d + 1, j, hjd, pre, c :: rest, u, hp, hu, hr => by
    have hj : j ≤ 9 := by omega
    have hb : pre.length ≤ 1000 := by omega
    have hc := hr c (List.mem_cons_self ..)
    obtain ⟨x, rfl⟩ := Int.eq_ofNat_of_zero_le hc.1
    have hx8 : x < 256 := by omega
    have hl : (pre ++ (x : Int) :: rest).length = pre.length + 1 + rest.length := by simp; omega
    have er : rdN (d + 1) ((x : Int) :: rest) u j = if 128 ≤ (x : Int) then rdN d rest (u + x % 128 * 2 ^ (7 * j)) (j + 1) else (if (j = 9 ∧ 1 < (x : Int)) ∨ (0 < j ∧ (x : Int) = 0) then (0, 0, 3) else (unf (u + x * 2 ^ (7 * j)), j + 1, 0)) := rfl
    rw [er]
    clear er
    have g1 : x < 128 → ¬ 128 ≤ (x : Int) := fun h => by omega
    have g2 : ¬ x < 128 → 128 ≤ (x : Int) := fun h => by omega
    have g3 : (j = 9 ∧ 1 < x) → ((j = 9 ∧ 1 < (x : Int)) ∨ (0 < j ∧ (x : Int) = 0)) := fun h => by omega
    have g4 : (1 ≤ j ∧ x = 0) → ((j = 9 ∧ 1 < (x : Int)) ∨ (0 < j ∧ (x : Int) = 0)) := fun h => by omega
    have g5 : ¬ (j = 9 ∧ 1 < x) → ¬ (1 ≤ j ∧ x = 0) → ¬ ((j = 9 ∧ 1 < (x : Int)) ∨ (0 < j ∧ (x : Int) = 0)) := fun h h' => by omega
    have g6 : j = 9 → d = 0 := fun h => by omega
    have g7 : (j : Int) < 10 := by omega
    have ew := w_addn hp hb
    have e7 := w_sevn hj
    have es := w_succ (i := pre.length) (Nat.lt_of_le_of_lt hb (by decide))
    have ej := w_succ (i := j) (Nat.lt_of_le_of_lt hj (by decide))
    have key : ∀ f : Bool, (f = true ↔ j = 9 ∧ 1 < x) → Ev (fun k => shapesearchref03_Int.j2 k (pre ++ (x : Int) :: rest) (at_ : Int) (u : Int) (j : Int) (x : Int) f) (place at_ (if 128 ≤ (x : Int) then rdN d rest (u + x % 128 * 2 ^ (7 * j)) (j + 1) else (if (j = 9 ∧ 1 < (x : Int)) ∨ (0 < j ∧ (x : Int) = 0) then (0, 0, 3) else (unf (u + x * 2 ^ (7 * j)), j + 1, 0)))) := by
      intro f hf
      refine Ev.step (fun k => by rw [shapesearchref03_Int.j2]) ?_
      by_cases h9 : j = 9 ∧ 1 < x
      · refine Ev.pos (hf.2 h9) ?_
        clear ew e7 es ej
        by_cases hc : x < 128
        · rw [if_neg (show ¬ 128 ≤ (x : Int) by omega), if_pos (show (j = 9 ∧ 1 < (x : Int)) ∨ (0 < j ∧ (x : Int) = 0) by omega)]
          show Ev _ ((0 : Int), (0 : Int), (3 : Int))
          exact Ev.now _
        · have hd : d = 0 := g6 h9.1
          subst hd
          rw [if_pos (show 128 ≤ (x : Int) by omega)]
          show Ev _ ((0 : Int), (0 : Int), (3 : Int))
          exact Ev.now _
      refine Ev.neg (fun h => h9 (hf.1 h)) ?_
      refine Ev.pos (by rw [e7]; exact Int.natCast_nonneg _) ?_
      have hle : u + x % 128 * 2 ^ (7 * j) < 18446744073709551616 := by
        clear ew e7 es ej
        by_cases h9' : j = 9
        · subst h9'
          have e9 : (2 : Nat) ^ (7 * 9) = 9223372036854775808 := by decide
          rw [e9] at hu ⊢
          omega
        · have h8 := pow_eight (j := j) (by omega)
          have h5 : x % 128 * 2 ^ (7 * j) ≤ 127 * 2 ^ (7 * j) := Nat.mul_le_mul_right _ (by omega)
          omega
      rw [part_add hj hle, unfolded_is hle, ew, es, ej]
      clear ew e7 es ej
      by_cases hc : x < 128
      · refine Ev.pos (by omega) ?_
        rw [if_neg (show ¬ 128 ≤ (x : Int) by omega), Nat.mod_eq_of_lt hc]
        have fin : ∀ v : Int, place at_ (v, j + 1, 0) = (v, ((pre.length + 1 : Nat) : Int), 0) := fun v => by rw [hp]; rfl
        by_cases h0 : x = 0
        · by_cases h1 : 1 ≤ j
          · rw [if_pos (show (j = 9 ∧ 1 < (x : Int)) ∨ (0 < j ∧ (x : Int) = 0) by omega)]
            show Ev _ ((0 : Int), (0 : Int), (3 : Int))
            exact Ev.pos (by omega) (Ev.pos (by omega) (Ev.now _))
          · rw [if_neg (show ¬ ((j = 9 ∧ 1 < (x : Int)) ∨ (0 < j ∧ (x : Int) = 0)) by omega), fin]
            exact Ev.pos (by omega) (Ev.neg (by omega) (Ev.bind (Ev.now _) (Ev.now _)))
        · rw [if_neg (show ¬ ((j = 9 ∧ 1 < (x : Int)) ∨ (0 < j ∧ (x : Int) = 0)) by omega), fin]
          exact Ev.neg (by omega) (Ev.bind (Ev.now _) (Ev.now _))
      · refine Ev.neg (by omega) ?_
        rw [if_pos (show 128 ≤ (x : Int) by omega)]
        have hj9 : j ≠ 9 := by omega
        have h8 := pow_eight (j := j) (by omega)
        have h5 : x % 128 * 2 ^ (7 * j) ≤ 127 * 2 ^ (7 * j) := Nat.mul_le_mul_right _ (by omega)
        have hpow := pow_seven j
        have ih := rint_loop at_ hat d (j + 1) (by omega) (pre ++ [(x : Int)]) rest (u + x % 128 * 2 ^ (7 * j)) (by rw [List.length_append, List.length_singleton]; omega) (by rw [hpow]; omega) (fun y hy => hr y (List.mem_cons_of_mem _ hy))
        rw [List.append_assoc, List.singleton_append] at ih
        exact ih
    refine Ev.step (fun k => by rw [shapesearchref03_Int.l0]) (Ev.pos g7 ?_)
    rw [ew, rd_mid]
    refine Ev.neg (by rw [hl]; clear ew e7 es ej; omega) (Ev.pos (by clear ew e7 es ej; omega) (Ev.pos (by rw [hl]; clear ew e7 es ej; omega) ?_))
    by_cases h9 : j = 9
    · exact Ev.pos (by clear ew e7 es ej; omega) (key _ (by rw [decide_eq_true_iff]; clear ew e7 es ej; omega))
    · exact Ev.neg (by clear ew e7 es ej; omega) (key _ (by simp [h9]))
theorem cint_is (b : List Int) (hb : ∀ x ∈ b, 0 ≤ x ∧ x ≤ 255) (i : Nat) (hi : i ≤ b.length) (hi9 : i ≤ 900) : Ev (fun k => codec_Int.f k b (i : Int)) (place i (rdN 10 (b.drop i) 0 0)) := by
  unfold codec_Int.f
  refine Ev.neg (by omega) ?_
  have e : decide ((i : Int) > (b.length : Int)) = false := decide_eq_false (by omega)
  rw [e]
  refine Ev.step (fun k => by rw [codec_Int.j0]) (Ev.neg (by decide) ?_)
  have hlt : (b.take i).length = i := by rw [List.length_take]; omega
  have h := cint_loop i hi9 10 0 rfl (b.take i) (b.drop i) 0 (by rw [hlt]; rfl) (by decide) (fun x hx => hb x (List.mem_of_mem_drop hx))
  rw [List.take_append_drop] at h
  exact h
theorem rint_is (b : List Int) (hb : ∀ x ∈ b, 0 ≤ x ∧ x ≤ 255) (i : Nat) (hi : i ≤ b.length) (hi9 : i ≤ 900) : Ev (fun k => shapesearchref03_Int.f k b (i : Int)) (place i (rdN 10 (b.drop i) 0 0)) := by
  unfold shapesearchref03_Int.f
  refine Ev.neg (by omega) ?_
  have e : decide ((i : Int) > (b.length : Int)) = false := decide_eq_false (by omega)
  rw [e]
  refine Ev.step (fun k => by rw [shapesearchref03_Int.j0]) (Ev.neg (by decide) ?_)
  have hlt : (b.take i).length = i := by rw [List.length_take]; omega
  have h := rint_loop i hi9 10 0 rfl (b.take i) (b.drop i) 0 (by rw [hlt]; rfl) (by decide) (fun x hx => hb x (List.mem_of_mem_drop hx))
  rw [List.take_append_drop] at h
  exact h
/-! ### bits of bytes -/
def byt (b : List Int) : Prop := ∀ x ∈ b, 0 ≤ x ∧ x ≤ 255
def tb (b : List Int) (m : Nat) : Bool := (b.getD (m / 8) 0).toNat.testBit (m % 8)
def bx (xs : List Int) (w m : Nat) : Bool := (xs.getD (m / w) 0).toNat.testBit (m % w)
theorem or_b : ∀ x < 256, ∀ j < 8, Go.bits .or .u8 ((x : Nat) : Int) (shl .u8 1 ((j : Nat) : Int)) = ((x ||| 2 ^ j : Nat) : Int) ∧ x ||| 2 ^ j < 256 := by decide +kernel
theorem bit_b : ∀ x < 256, ∀ j < 8, wrap64 (Go.bits .and .u8 (((x : Nat) : Int) / 2 ^ j) 1) = if x.testBit j then 1 else 0 := by decide +kernel
theorem wi64' (n : Int) : IntKind.i64.wrap n = wrap64 n := by
  have e : (2 : Int) ^ IntKind.i64.bits = 18446744073709551616 := rfl
  simp [IntKind.wrap, IntKind.bits, IntKind.signed, wrap64] <;> omega
theorem bv64 (a : Nat) : BitVec.ofInt 64 (a : Int) = BitVec.ofNat 64 a := BitVec.ofInt_natCast 64 a
theorem and_i64 {a : Nat} (h : a < 9223372036854775808) : Go.bits .and .i64 (a : Int) 1 = ((a % 2 : Nat) : Int) := by
  have e : BitVec.ofInt 64 1 = 1#64 := by decide
  show IntKind.i64.wrap ((BitVec.ofInt 64 (a : Int) &&& BitVec.ofInt 64 1).toNat : Int) = _
  have k : (2 : Nat) ^ 64 = 18446744073709551616 := rfl
  rw [e, bv64, BitVec.toNat_and, BitVec.toNat_ofNat, wi64']
  have e3 : (1#64).toNat = 1 := rfl
  rw [e3, Nat.and_one_is_mod, k, Nat.mod_eq_of_lt (show a < 18446744073709551616 by omega), w64 (by omega) (by omega)]
theorem or_i64 {u v j : Nat} (hu : u < 2 ^ j) (h : u + v * 2 ^ j < 9223372036854775808) : Go.bits .or .i64 (u : Int) ((v * 2 ^ j : Nat) : Int) = ((u + v * 2 ^ j : Nat) : Int) := by
  show IntKind.i64.wrap ((BitVec.ofInt 64 (u : Int) ||| BitVec.ofInt 64 ((v * 2 ^ j : Nat) : Int)).toNat : Int) = _
  have k : (2 : Nat) ^ 64 = 18446744073709551616 := rfl
  have e3 := Nat.two_pow_add_eq_or_of_lt hu v
  rw [Nat.mul_comm (2 ^ j) v, Nat.or_comm] at e3
  rw [bv64, bv64, BitVec.toNat_or, BitVec.toNat_ofNat, BitVec.toNat_ofNat, wi64', k, Nat.mod_eq_of_lt (show u < 18446744073709551616 by omega), Nat.mod_eq_of_lt (show v * 2 ^ j < 18446744073709551616 by omega), ← e3, w64 (by omega) (by omega)]
  omega
theorem shl_i64 {v k : Nat} (hk : k ≤ 64) (h : v * 2 ^ k < 9223372036854775808) : shl .i64 (v : Int) (k : Int) = ((v * 2 ^ k : Nat) : Int) := by
  unfold shl
  have e : min ((k : Int)).toNat IntKind.i64.bits = k := by
    have : IntKind.i64.bits = 64 := rfl
    rw [this, Int.toNat_natCast]
    omega
  have e2 : (v : Int) * 2 ^ k = ((v * 2 ^ k : Nat) : Int) := by push_cast; rfl
  rw [e, e2, wi64', w64 (by omega) (by omega)]
theorem shr_i64 {v k : Nat} (hk : k ≤ 64) : shr .i64 (v : Int) (k : Int) = ((v / 2 ^ k : Nat) : Int) := by
  unfold shr
  have e : min ((k : Int)).toNat IntKind.i64.bits = k := by
    have : IntKind.i64.bits = 64 := rfl
    rw [this, Int.toNat_natCast]
    omega
  have e2 : (v : Int) / 2 ^ k = ((v / 2 ^ k : Nat) : Int) := by push_cast; rfl
  rw [e, e2]
theorem shl_one {k : Nat} (hk : k ≤ 32) : shl .i64 1 (k : Int) = ((2 ^ k : Nat) : Int) := by
  have hp : (2 : Nat) ^ k ≤ 2 ^ 32 := Nat.pow_le_pow_right (by omega) hk
  have h32 : (2 : Nat) ^ 32 = 4294967296 := rfl
  have := shl_i64 (v := 1) (k := k) (by omega) (by omega)
  rw [Nat.one_mul] at this
  exact this
theorem w_pos {i w k : Nat} (h : i * w + k ≤ 1000000) : wrap64 (wrap64 ((i : Int) * (w : Int)) + (k : Int)) = ((i * w + k : Nat) : Int) := by
  rw [← Int.natCast_mul, w64 (n := ((i * w : Nat) : Int)) (by omega) (by omega), w64 (by omega) (by omega)]
  omega
theorem w_div {a w : Nat} (h : a ≤ 1000000) : wrap64 (Int.tdiv (a : Int) (w : Int)) = ((a / w : Nat) : Int) := by
  have := Nat.div_le_self a w
  show wrap64 ((a / w : Nat) : Int) = _
  generalize a / w = q at *
  exact w64 (by omega) (by omega)
theorem w_div8 {a : Nat} (h : a ≤ 1000000) : wrap64 (Int.tdiv (a : Int) 8) = ((a / 8 : Nat) : Int) := w_div (w := 8) h
theorem t_mod (a w : Nat) : Int.tmod (a : Int) (w : Int) = ((a % w : Nat) : Int) := rfl
theorem t_mod8 (a : Nat) : Int.tmod (a : Int) 8 = ((a % 8 : Nat) : Int) := rfl
theorem w_mul {a b : Nat} (h : a * b ≤ 1000000) : wrap64 ((a : Int) * (b : Int)) = ((a * b : Nat) : Int) := by rw [← Int.natCast_mul, w64 (by omega) (by omega)]
theorem w_eight {a : Nat} (h : a ≤ 1000000) : wrap64 (8 * (a : Int)) = ((8 * a : Nat) : Int) := by rw [w64 (by omega) (by omega)]; omega
theorem test_i64 {v k : Nat} (hk : k ≤ 64) (hv : v < 9223372036854775808) : (Go.bits .and .i64 (shr .i64 (v : Int) (k : Int)) 1 = 1) ↔ v.testBit k = true := by
  have := Nat.div_le_self v (2 ^ k)
  rw [shr_i64 hk, and_i64 (by omega), Nat.testBit_eq_decide_div_mod_eq, decide_eq_true_iff]
  omega
theorem getD_at (b : List Int) (i : Nat) (h : i < b.length) : b.getD i 0 = b[i] := by rw [List.getD_eq_getElem?_getD, List.getElem?_eq_getElem h]; rfl
theorem rd_getD (b : List Int) (i : Nat) : rd b (i : Int) = b.getD i 0 := by unfold rd; rw [Int.toNat_natCast]
theorem byt_at {b : List Int} (hb : byt b) (i : Nat) : ∃ x : Nat, b.getD i 0 = (x : Int) ∧ x < 256 := by
  by_cases h : i < b.length
  · rw [getD_at b i h]
    have := hb b[i] (List.getElem_mem h)
    exact ⟨b[i].toNat, by omega, by omega⟩
  · refine ⟨0, ?_, by omega⟩
    rw [List.getD_eq_getElem?_getD, List.getElem?_eq_none (by omega)]
    rfl
theorem byt_set {b : List Int} (hb : byt b) (i : Nat) {x : Nat} (hx : x < 256) : byt (b.set i (x : Int)) := by
  intro z hz
  rcases List.mem_or_eq_of_mem_set hz with h | h
  · exact hb z h
  · omega
theorem tb_set {b : List Int} {i x m : Nat} (hi : i < b.length) : tb (b.set i (x : Int)) m = if m / 8 = i then x.testBit (m % 8) else tb b m := by
  unfold tb
  by_cases h : m / 8 = i
  · rw [if_pos h, h, getD_at _ _ (by rw [List.length_set]; exact hi), List.getElem_set_self, Int.toNat_natCast]
  · rw [if_neg h, List.getD_eq_getElem?_getD, List.getElem?_set_ne (fun e => h e.symm), ← List.getD_eq_getElem?_getD]
theorem tb_or {b : List Int} (hb : byt b) {a m : Nat} (ha : a / 8 < b.length) : byt (b.set (a / 8) (Go.bits .or .u8 (b.getD (a / 8) 0) (shl .u8 1 ((a % 8 : Nat) : Int)))) ∧ tb (b.set (a / 8) (Go.bits .or .u8 (b.getD (a / 8) 0) (shl .u8 1 ((a % 8 : Nat) : Int)))) m = (tb b m || decide (m = a)) := by
  obtain ⟨x, ex, hx⟩ := byt_at hb (a / 8)
  obtain ⟨e1, e2⟩ := or_b x hx (a % 8) (by omega)
  rw [ex, e1]
  refine ⟨byt_set hb _ e2, ?_⟩
  rw [tb_set ha]
  by_cases h : m / 8 = a / 8
  · rw [if_pos h, Nat.testBit_or, Nat.testBit_two_pow]
    unfold tb
    rw [h, ex, Int.toNat_natCast]
    congr 1
    rw [decide_eq_decide]
    omega
  · rw [if_neg h, decide_eq_false (by omega), Bool.or_false]
theorem bitz_is {b : List Int} (hb : byt b) (m : Nat) : X.bitz b m = if tb b m then 1 else 0 := by
  obtain ⟨x, ex, hx⟩ := byt_at hb (m / 8)
  have := bit_b x hx (m % 8) (by omega)
  unfold X.bitz tb
  rw [rd_getD, ex, Int.toNat_natCast]
  exact this
/-- Bytes that hold the bits of numbers. -/
def Enc (b : List Int) (w : Nat) (xs : List Int) : Prop := byt b ∧ b.length = (w * xs.length + 7) / 8 ∧ ∀ m, m < 8 * b.length → tb b m = (decide (m < xs.length * w) && bx xs w m)
def Fit (w : Nat) (xs : List Int) : Prop := ∀ x ∈ xs, 0 ≤ x ∧ x < 2 ^ w
theorem fit_at {w : Nat} {xs : List Int} (h : Fit w xs) (i : Nat) (hi : i < xs.length) : ∃ v : Nat, xs.getD i 0 = (v : Int) ∧ v < 2 ^ w := by
  rw [getD_at xs i hi]
  have := h xs[i] (List.getElem_mem hi)
  refine ⟨xs[i].toNat, by omega, ?_⟩
  have e : ((xs[i].toNat : Nat) : Int) < ((2 ^ w : Nat) : Int) := by push_cast; omega
  omega
theorem mul_lt_of {i k w n : Nat} (hi : i < n) (hk : k < w) : i * w + k < n * w := by
  have h3 : (i + 1) * w ≤ n * w := Nat.mul_le_mul_right w (by omega)
  rw [Nat.add_mul, Nat.one_mul] at h3
  omega
theorem div_of {i k w : Nat} (hk : k < w) : (i * w + k) / w = i := by rw [Nat.mul_comm, Nat.mul_add_div (by omega), Nat.div_eq_of_lt hk, Nat.add_zero]
theorem mod_of {i k w : Nat} (hk : k < w) : (i * w + k) % w = k := by rw [Nat.mul_comm, Nat.mul_add_mod, Nat.mod_eq_of_lt hk]
theorem size_is {w n : Nat} (hw : w ≤ 32) (hn : n ≤ 2000) : codec_size.f (w : Int) (n : Int) = some (((w * n + 7) / 8 : Nat) : Int) := by
  have hwn : w * n ≤ 64000 := Nat.mul_le_mul hw hn
  unfold codec_size.f
  rw [← Int.natCast_mul, w64 (n := ((w * n : Nat) : Int)) (by omega) (by omega), w64 (n := ((w * n : Nat) : Int) + 7) (by omega) (by omega), Int.tdiv_eq_ediv_of_nonneg (by omega), w64 (by omega) (by omega)]
  rfl
/-! ### numbers packed -/
theorem pack_l1 {w : Nat} (hw : w ≤ 32) {xs : List Int} (hn : xs.length ≤ 2000) (i : Nat) (hi : i < xs.length) {v : Nat} (ev : xs.getD i 0 = (v : Int)) (hv : v < 2 ^ w) (Q : List Int × Int → Prop) (L : Nat) (hL : L = (w * xs.length + 7) / 8)
    (next : ∀ b, byt b → b.length = L → (∀ m, m < 8 * L → tb b m = (decide (m < (i + 1) * w) && bx xs w m)) → EvP (fun k => codec_Pack.l0 k (w : Int) b xs (xs.length : Int) ((i + 1 : Nat) : Int)) Q) (d : Nat) :
    ∀ (k : Nat) (b : List Int), k + d = w → byt b → b.length = L → (∀ m, m < 8 * L → tb b m = (decide (m < i * w + k) && bx xs w m)) →
      EvP (fun n => codec_Pack.l1 n (w : Int) b (i : Int) (xs.getD i 0) xs (xs.length : Int) (i : Int) (w : Int) (k : Int)) Q := by
  have hwn : w * xs.length ≤ 64000 := Nat.mul_le_mul hw hn
  have hv32 : v < 9223372036854775808 := by
    have hp : (2 : Nat) ^ w ≤ 2 ^ 32 := Nat.pow_le_pow_right (by omega) hw
    have h32 : (2 : Nat) ^ 32 = 4294967296 := rfl
    omega
  induction d with
  | zero =>
    intro k b hk hb hl ht
    refine EvP.step (fun n => by rw [codec_Pack.l1]) (EvP.neg (by omega) ?_)
    rw [w_succ (by omega)]
    refine next b hb hl (fun m hm => ?_)
    rw [ht m hm, Nat.add_mul, Nat.one_mul, show k = w by omega]
  | succ d ih =>
    intro k b hk hb hl ht
    have hkw : k < w := by omega
    have hlt := mul_lt_of hi hkw
    have hc := Nat.mul_comm w xs.length
    have hbx : bx xs w (i * w + k) = v.testBit k := by
      unfold bx
      rw [div_of hkw, mod_of hkw, ev, Int.toNat_natCast]
    have hia : (i * w + k) / 8 < b.length := by omega
    have ih' := ih (k + 1)
    clear ih
    have step : ∀ m : Nat, m < 8 * L → decide (m < i * w + (k + 1)) = (decide (m < i * w + k) || decide (m = i * w + k)) := by
      intro m hm
      rw [← Bool.decide_or, decide_eq_decide]
      omega
    refine EvP.step (fun n => by rw [codec_Pack.l1]) (EvP.pos (by omega) (EvP.pos (by omega) ?_))
    rw [w_pos (by omega), w_div8 (by omega), t_mod8, ev, w_succ (by omega), rd_getD]
    rw [ev] at ih'
    have hkd : k + 1 + d = w := by omega
    refine EvP.ite (fun ht1 => EvP.pos (by omega) (EvP.pos (by omega) (EvP.pos (by omega) ?_))) (fun ht1 => ?_)
    · have hbit := (test_i64 (by omega) hv32).1 ht1
      rw [Int.toNat_natCast]
      refine ih' _ hkd (tb_or hb (m := 0) hia).1 (by rw [List.length_set]; exact hl) (fun m hm => ?_)
      rw [(tb_or hb (m := m) hia).2, ht m hm, step m hm]
      by_cases hmm : m = i * w + k
      · rw [hmm, hbx, hbit]
        simp
      · rw [decide_eq_false hmm, Bool.or_false, Bool.or_false]
    · have hbit : v.testBit k = false := by
        cases h : v.testBit k with
        | false => rfl
        | true => exact absurd ((test_i64 (by omega) hv32).2 h) ht1
      refine ih' b hkd hb hl (fun m hm => ?_)
      rw [ht m hm, step m hm]
      by_cases hmm : m = i * w + k
      · rw [hmm, hbx, hbit]
        simp
      · rw [decide_eq_false hmm, Bool.or_false]
theorem pack_l0 {w : Nat} (hw : w ≤ 32) {xs : List Int} (hn : xs.length ≤ 2000) (hf : Fit w xs) (L : Nat) (hL : L = (w * xs.length + 7) / 8) (d : Nat) :
    ∀ (i : Nat) (b : List Int), i + d = xs.length → byt b → b.length = L → (∀ m, m < 8 * L → tb b m = (decide (m < i * w) && bx xs w m)) →
      EvP (fun n => codec_Pack.l0 n (w : Int) b xs (xs.length : Int) (i : Int)) (fun r => r.2 = 0 ∧ Enc r.1 w xs) := by
  induction d with
  | zero =>
    intro i b hi hb hl ht
    refine EvP.step (fun n => by rw [codec_Pack.l0]) (EvP.neg (by omega) (EvP.ret ⟨rfl, hb, by rw [hl, hL], fun m hm => ?_⟩))
    dsimp only at hm
    rw [hl] at hm
    rw [ht m hm, show i = xs.length by omega]
  | succ d ih =>
    intro i b hi hb hl ht
    have hlt : i < xs.length := by omega
    obtain ⟨v, ev, hv⟩ := fit_at hf i hlt
    refine EvP.step (fun n => by rw [codec_Pack.l0]) (EvP.pos (by omega) (EvP.pos (by omega) (EvP.pos (by omega) ?_)))
    rw [rd_getD, shl_one hw]
    refine EvP.neg (by rw [ev]; omega) (EvP.pos (by omega) (EvP.step (fun n => by rw [codec_Pack.j2]) (EvP.neg (by rw [ev, decide_eq_false (by omega)]; simp) ?_)))
    exact pack_l1 hw hn i hlt ev hv _ L hL (fun b' h1 h2 h3 => ih (i + 1) b' (by omega) h1 h2 h3) w 0 b (by omega) hb hl (fun m hm => by rw [ht m hm, Nat.add_zero])
theorem pack_is {w : Nat} (hw : w ≤ 32) {xs : List Int} (hn : xs.length ≤ 2000) (hf : Fit w xs) : EvP (fun n => codec_Pack.f n xs (w : Int)) (fun r => r.2 = 0 ∧ Enc r.1 w xs) := by
  have hwn : w * xs.length ≤ 64000 := Nat.mul_le_mul hw hn
  unfold codec_Pack.f
  refine EvP.neg (by omega) (EvP.step (fun n => by rw [codec_Pack.j0]) (EvP.neg (by simp; omega) (EvP.neg (by omega) ?_)))
  rw [size_is hw hn]
  refine EvP.bind1 (Ev.now _) (EvP.pos (by omega) (EvP.pos (by omega) ?_))
  rw [Int.toNat_natCast]
  refine pack_l0 hw hn hf _ rfl xs.length 0 _ (by omega) (fun x hx => ?_) (by rw [List.length_replicate]) (fun m hm => ?_)
  · rw [(List.mem_replicate.1 hx).2]
    omega
  · rw [decide_eq_false (by omega), Bool.false_and]
    unfold tb
    rw [List.getD_eq_getElem?_getD, List.getElem?_replicate]
    split <;> simp
theorem keep_Ints_l0 (x y : List Int) (hl : x.length = y.length) (hn : x.length ≤ 1000000000) (d : Nat) : ∀ i : Nat, i + d = x.length → Ev (fun k => shapesearchkeep_Ints.l0 k x y (x.length : Int) (i : Int)) (decide (x.drop i = y.drop i)) := by
  induction d with
  | zero =>
    intro i hi
    refine Ev.step (fun k => by rw [shapesearchkeep_Ints.l0]) (Ev.neg (by omega) ?_)
    rw [List.drop_eq_nil_of_le (by omega), List.drop_eq_nil_of_le (by omega)]
    exact Ev.now _
  | succ d ih =>
    intro i hi
    have hlt : i < x.length := by omega
    have hlt' : i < y.length := by omega
    refine Ev.step (fun k => by rw [shapesearchkeep_Ints.l0]) (Ev.pos (by omega) (Ev.pos (by omega) (Ev.pos (by omega) (Ev.pos (by omega) ?_))))
    have e : wrap64 ((i : Int) + 1) = ((i + 1 : Nat) : Int) := by rw [w64 (by omega) (by omega)]; omega
    rw [rd_nat x i hlt, rd_nat y i hlt', List.drop_eq_getElem_cons hlt, List.drop_eq_getElem_cons hlt', e]
    by_cases h : x[i] = y[i]
    · refine Ev.pos h ?_
      have : decide (x[i] :: x.drop (i + 1) = y[i] :: y.drop (i + 1)) = decide (x.drop (i + 1) = y.drop (i + 1)) := by rw [h, decide_eq_decide, List.cons.injEq]; exact ⟨fun e => e.2, fun e => ⟨rfl, e⟩⟩
      rw [this]
      exact ih (i + 1) (by omega)
    · rw [decide_eq_false (fun e' => h (List.cons.inj e').1)]
      exact Ev.neg h (Ev.now _)
theorem keep_Ints_is (x y : List Int) (hn : x.length ≤ 1000000000) : Ev (fun k => shapesearchkeep_Ints.f k x y) (decide (x = y)) := by
  unfold shapesearchkeep_Ints.f
  by_cases h : x.length = y.length
  · have := keep_Ints_l0 x y h hn x.length 0 (by omega)
    simp only [List.drop_zero] at this
    exact Ev.pos (by omega) this
  · rw [decide_eq_false (fun e => h (by rw [e]))]
    exact Ev.neg (by omega) (Ev.now _)
theorem keep_Bytes (s : List Int) (a : Int) (l : List Int) (h : Src s a) (hb : bts l) (hl : l.length ≤ 1000) : EvP (fun _ => shapesearchkeep_Src_Bytes.f s a l) (fun r => Src s r.2 ∧ bts r.1 ∧ r.1.length ≤ l.length + 1) := by
  unfold shapesearchkeep_Src_Bytes.f
  refine EvP.bind1 (Ev.now _) (EvP.pos (by rw [List.length_nil]; omega) (EvP.bind1 (Ev.now _) ?_))
  rw [List.nil_append, w64 (n := (l.length : Int) + 1) (by omega) (by omega)]
  refine EvP.bind (keep_N s a 4 h (by omega) (by omega)) (fun c hc => EvP.ite (fun _ => ?_) (fun _ => EvP.ite (fun _ => ?_) (fun _ => EvP.ite (fun _ => EvP.ite (fun h0 => ?_) (fun _ => ?_)) (fun _ => ?_))))
  · refine EvP.bind (keep_N s c.2 ((l.length : Int) + 1) hc.1 (by omega) (by omega)) (fun i hi => EvP.pos hi.2.1 (EvP.pos (by omega) (EvP.ret ⟨hi.1, fun x hx => hb x (List.mem_of_mem_take hx), ?_⟩)))
    rw [List.length_take]
    omega
  · refine EvP.bind (keep_N s c.2 256 hc.1 (by omega) (by omega)) (fun i hi => EvP.pos (by omega) (EvP.ret ⟨hi.1, fun x hx => ?_, by simp⟩))
    rcases List.mem_append.1 hx with hx | hx
    · exact hb x hx
    · have : x = i.1 % 256 := by simpa using hx
      omega
  · refine EvP.bind (keep_N s c.2 l.length hc.1 (by omega) (by omega)) (fun i hi => EvP.pos hi.2.1 (EvP.pos hi.2.2 (EvP.bind (keep_Range s i.2 1 255 hi.1 (by omega) (by omega) (by omega)) (fun v hv => EvP.ret ⟨hv.1, fun x hx => ?_, by simp⟩))))
    rcases List.mem_or_eq_of_mem_set hx with hx | hx
    · exact hb x hx
    · have := bits_u8 .xor (rd l i.1) (v.1 % 256)
      rw [hx]
      omega
  · exact EvP.ret ⟨hc.1, hb, Nat.le_succ _⟩
  · exact EvP.ret ⟨hc.1, hb, Nat.le_succ _⟩
/-! ### the number of bits -/
def okL (n : Nat) (r : Option Int) : Bool := match r with
  | some t => decide (0 ≤ t ∧ t ≤ 8 ∧ n < 2 ^ t.toNat ∧ ((n = 0 ∧ t = 0) ∨ (1 ≤ t ∧ 2 ^ (t.toNat - 1) ≤ n)))
  | none => false
theorem len8 : ∀ n < 256, okL n (bits_Len.f 1 ((n : Nat) : Int)) = true := by decide +kernel
theorem len_tab (q : Nat) (hq : q < 256) : ∃ z : Int, (∀ k, bits_Len.f (k + 1) (q : Int) = some (wrap64 (0 + z))) ∧
    (∀ n : Nat, 256 ≤ n → n < 65536 → n / 256 = q → ∀ k, bits_Len.f (k + 1) (n : Int) = some (wrap64 (wrap64 (0 + 8) + z))) ∧
    (∀ n : Nat, 65536 ≤ n → n < 16777216 → n / 65536 = q → ∀ k, bits_Len.f (k + 1) (n : Int) = some (wrap64 (wrap64 (0 + 16) + z))) ∧
    (∀ n : Nat, 16777216 ≤ n → n < 4294967296 → n / 16777216 = q → ∀ k, bits_Len.f (k + 1) (n : Int) = some (wrap64 (wrap64 (wrap64 (0 + 16) + 8) + z))) := by
  refine ⟨?z, fun k => ?_, fun n h1 h2 h3 k => ?_, fun n h1 h2 h3 k => ?_, fun n h1 h2 h3 k => ?_⟩
  rotate_left
  · unfold bits_Len.f bits_Len64.f
    rw [if_neg (by omega), bits_Len64.j0, if_neg (by omega), if_neg (by omega), if_pos (by omega), if_pos (by omega)]
    rfl
  · unfold bits_Len.f bits_Len64.f
    have e : (n : Int) / 256 = (q : Int) := by omega
    rw [if_neg (by omega), bits_Len64.j0, if_neg (by omega), if_pos (by omega), e, if_pos (by omega), if_pos (by omega)]
    rfl
  · unfold bits_Len.f bits_Len64.f
    have e : (n : Int) / 65536 = (q : Int) := by omega
    rw [if_neg (by omega), bits_Len64.j0, if_pos (by omega), e, if_neg (by omega), if_pos (by omega), if_pos (by omega)]
    rfl
  · unfold bits_Len.f bits_Len64.f
    have e : (n : Int) / 65536 / 256 = (q : Int) := by omega
    rw [if_neg (by omega), bits_Len64.j0, if_pos (by omega), if_pos (by omega), e, if_pos (by omega), if_pos (by omega)]
    rfl
theorem w_z8 {z : Int} (h0 : 0 ≤ wrap64 (0 + z)) (h1 : wrap64 (0 + z) ≤ 8) : wrap64 (wrap64 (0 + 8) + z) = 8 + wrap64 (0 + z) := by unfold wrap64 at *; omega
theorem w_z16 {z : Int} (h0 : 0 ≤ wrap64 (0 + z)) (h1 : wrap64 (0 + z) ≤ 8) : wrap64 (wrap64 (0 + 16) + z) = 16 + wrap64 (0 + z) := by unfold wrap64 at *; omega
theorem w_z24 {z : Int} (h0 : 0 ≤ wrap64 (0 + z)) (h1 : wrap64 (0 + z) ≤ 8) : wrap64 (wrap64 (wrap64 (0 + 16) + 8) + z) = 24 + wrap64 (0 + z) := by unfold wrap64 at *; omega
theorem len_is {n : Nat} (hn : n < 4294967296) : ∃ t : Nat, Ev (fun k => bits_Len.f k (n : Int)) (t : Int) ∧ t ≤ 32 ∧ n < 2 ^ t ∧ ((n = 0 ∧ t = 0) ∨ (1 ≤ t ∧ 2 ^ (t - 1) ≤ n)) := by
  have tab : ∀ q : Nat, q < 256 → ∃ s : Nat, ∃ z : Int, wrap64 (0 + z) = (s : Int) ∧ s ≤ 8 ∧ q < 2 ^ s ∧ ((q = 0 ∧ s = 0) ∨ (1 ≤ s ∧ 2 ^ (s - 1) ≤ q)) ∧ (∀ k, bits_Len.f (k + 1) (q : Int) = some (wrap64 (0 + z))) ∧
      (∀ n : Nat, 256 ≤ n → n < 65536 → n / 256 = q → ∀ k, bits_Len.f (k + 1) (n : Int) = some (wrap64 (wrap64 (0 + 8) + z))) ∧
      (∀ n : Nat, 65536 ≤ n → n < 16777216 → n / 65536 = q → ∀ k, bits_Len.f (k + 1) (n : Int) = some (wrap64 (wrap64 (0 + 16) + z))) ∧
      (∀ n : Nat, 16777216 ≤ n → n < 4294967296 → n / 16777216 = q → ∀ k, bits_Len.f (k + 1) (n : Int) = some (wrap64 (wrap64 (wrap64 (0 + 16) + 8) + z))) := by
    intro q hq
    obtain ⟨z, a, b, c, dd⟩ := len_tab q hq
    have h := len8 q hq
    rw [a 0] at h
    have h' := of_decide_eq_true h
    refine ⟨(wrap64 (0 + z)).toNat, z, ?_, ?_, h'.2.2.1, ?_, a, b, c, dd⟩
    · rw [Int.toNat_of_nonneg h'.1]
    · have h1 := h'.1
      have h2 := h'.2.1
      generalize wrap64 (0 + z) = y at *
      omega
    · rcases h'.2.2.2 with ⟨h1, h2⟩ | ⟨h1, h2⟩
      · exact .inl ⟨h1, by rw [h2]; rfl⟩
      · refine .inr ⟨?_, h2⟩
        generalize wrap64 (0 + z) = y at *
        omega
  have ev : ∀ (m : Nat) (r : Int), (∀ k, bits_Len.f (k + 1) (m : Int) = some r) → Ev (fun k => bits_Len.f k (m : Int)) r := fun m r h => Ev.step (f := fun _ => some r) h (Ev.now r)
  by_cases c1 : n < 256
  · obtain ⟨s, z, e, s8, h1, h2, h3, _, _, _⟩ := tab n c1
    refine ⟨s, ev n s (fun k => by rw [h3 k, e]), by omega, h1, h2⟩
  by_cases c2 : n < 65536
  · obtain ⟨s, z, e, s8, h1, h2, _, h3, _, _⟩ := tab (n / 256) (by omega)
    have h4 := h3 n (by omega) c2 rfl
    clear h3
    have e2 := w_z8 (z := z) (by rw [e]; omega) (by rw [e]; omega)
    rw [e] at e2
    refine ⟨8 + s, ev n _ (fun k => by rw [h4 k, e2]; rfl), by clear e2 e; omega, ?_, ?_⟩
    · clear e2 e
      rw [Nat.pow_add, show (2 : Nat) ^ 8 = 256 from rfl]
      omega
    · clear e2 e
      have hs : 1 ≤ s := by omega
      refine .inr ⟨by omega, ?_⟩
      rw [show 8 + s - 1 = 8 + (s - 1) by omega, Nat.pow_add, show (2 : Nat) ^ 8 = 256 from rfl]
      omega
  by_cases c3 : n < 16777216
  · obtain ⟨s, z, e, s8, h1, h2, _, _, h3, _⟩ := tab (n / 65536) (by omega)
    have h4 := h3 n (by omega) c3 rfl
    clear h3
    have e2 := w_z16 (z := z) (by rw [e]; omega) (by rw [e]; omega)
    rw [e] at e2
    refine ⟨16 + s, ev n _ (fun k => by rw [h4 k, e2]; rfl), by clear e2 e; omega, ?_, ?_⟩
    · clear e2 e
      rw [Nat.pow_add, show (2 : Nat) ^ 16 = 65536 from rfl]
      omega
    · clear e2 e
      have hs : 1 ≤ s := by omega
      refine .inr ⟨by omega, ?_⟩
      rw [show 16 + s - 1 = 16 + (s - 1) by omega, Nat.pow_add, show (2 : Nat) ^ 16 = 65536 from rfl]
      omega
  · obtain ⟨s, z, e, s8, h1, h2, _, _, _, h3⟩ := tab (n / 16777216) (by omega)
    have h4 := h3 n (by omega) (by omega) rfl
    clear h3
    have e2 := w_z24 (z := z) (by rw [e]; omega) (by rw [e]; omega)
    rw [e] at e2
    refine ⟨24 + s, ev n _ (fun k => by rw [h4 k, e2]; rfl), by clear e2 e; omega, ?_, ?_⟩
    · clear e2 e
      rw [Nat.pow_add, show (2 : Nat) ^ 24 = 16777216 from rfl]
      omega
    · clear e2 e
      have hs : 1 ≤ s := by omega
      refine .inr ⟨by omega, ?_⟩
      rw [show 24 + s - 1 = 24 + (s - 1) by omega, Nat.pow_add, show (2 : Nat) ^ 24 = 16777216 from rfl]
      omega
/-! ### both find the same width -/
theorem mx_nat (t s : Nat) : mx (t : Int) (s : Int) = ((max t s : Nat) : Int) := by unfold mx; split <;> omega
theorem both_width {xs : List Int} (hn : xs.length ≤ 2000) (hx : ∀ x ∈ xs, -9223372036854775808 ≤ x ∧ x ≤ 9223372036854775807) : ∃ r : Int, Ev (fun k => codec_Width.f k xs) r ∧ Ev (fun k => shapesearchref03_Width.f k xs) r := by
  have key : ∀ (d i t : Nat), i + d = xs.length → t ≤ 32 → ∃ r : Int, Ev (fun k => codec_Width.l0 k (t : Int) xs (xs.length : Int) (i : Int)) r ∧ Ev (fun k => shapesearchref03_Width.l0 k xs (t : Int) (xs.length : Int) (i : Int)) r := by
    intro d
    induction d with
    | zero =>
      intro i t hi ht
      exact ⟨_, Ev.step (fun k => by rw [codec_Width.l0]) (Ev.neg (by omega) (Ev.now _)), Ev.step (fun k => by rw [shapesearchref03_Width.l0]) (Ev.neg (by omega) (Ev.now _))⟩
    | succ d ih =>
      intro i t hi ht
      have hlt : i < xs.length := by omega
      have hxi := hx xs[i] (List.getElem_mem hlt)
      have erd : rd xs (i : Int) = xs[i] := rd_nat xs i hlt
      have ei := w_succ (i := i) (by omega)
      by_cases h0 : xs[i] < 0
      · refine ⟨-1, ?_, ?_⟩
        · refine Ev.step (fun k => by rw [codec_Width.l0]) (Ev.pos (by omega) (Ev.pos (by omega) (Ev.pos (by omega) ?_)))
          rw [erd]
          exact Ev.pos h0 (Ev.now _)
        · refine Ev.step (fun k => by rw [shapesearchref03_Width.l0]) (Ev.pos (by omega) (Ev.pos (by omega) (Ev.pos (by omega) ?_)))
          rw [erd]
          exact Ev.pos h0 (Ev.step (fun k => by rw [shapesearchref03_Width.j1]) (Ev.pos rfl (Ev.now _)))
      by_cases h1 : xs[i] > 4294967295
      · refine ⟨-1, ?_, ?_⟩
        · refine Ev.step (fun k => by rw [codec_Width.l0]) (Ev.pos (by omega) (Ev.pos (by omega) (Ev.pos (by omega) ?_)))
          rw [erd]
          exact Ev.neg h0 (Ev.pos h1 (Ev.now _))
        · refine Ev.step (fun k => by rw [shapesearchref03_Width.l0]) (Ev.pos (by omega) (Ev.pos (by omega) (Ev.pos (by omega) ?_)))
          rw [erd, decide_eq_true h1]
          exact Ev.neg h0 (Ev.step (fun k => by rw [shapesearchref03_Width.j1]) (Ev.pos rfl (Ev.now _)))
      obtain ⟨v, ev⟩ := Int.eq_ofNat_of_zero_le (show 0 ≤ xs[i] by omega)
      have hv : v < 4294967296 := by omega
      obtain ⟨s, hs, s32, hvs, hsl⟩ := len_is hv
      obtain ⟨r, r1, r2⟩ := ih (i + 1) (max t s) (by omega) (by omega)
      refine ⟨r, ?_, ?_⟩
      · refine Ev.step (fun k => by rw [codec_Width.l0]) (Ev.pos (by omega) (Ev.pos (by omega) (Ev.pos (by omega) ?_)))
        rw [erd, ei]
        refine Ev.neg h0 (Ev.neg h1 ?_)
        rw [ev, wu64, show (v : Int) % 18446744073709551616 = (v : Int) by clear ei; omega]
        refine Ev.bind hs ?_
        rw [mx_nat]
        exact r1
      · refine Ev.step (fun k => by rw [shapesearchref03_Width.l0]) (Ev.pos (by omega) (Ev.pos (by omega) (Ev.pos (by omega) ?_)))
        rw [erd, decide_eq_false h1]
        refine Ev.neg h0 (Ev.step (fun k => by rw [shapesearchref03_Width.j1]) (Ev.neg (by decide) ?_))
        have inner : ∀ (e t' : Nat), t' + e = max t s → t ≤ t' → Ev (fun k => shapesearchref03_Width.l1 k xs (t' : Int) (i : Int) (xs.length : Int) (i : Int)) r := by
          intro e
          induction e with
          | zero =>
            intro t' he ht'
            have p1 : 2 ^ s ≤ 2 ^ t' := Nat.pow_le_pow_right (by omega) (by omega)
            refine Ev.step (fun k => by rw [shapesearchref03_Width.l1]) (Ev.pos (by clear ei; omega) (Ev.pos (by clear ei; omega) (Ev.pos (by clear ei; omega) ?_)))
            rw [erd, ev, shl_one (by clear ei; omega), ei]
            refine Ev.neg (by clear ei; omega) ?_
            rw [show t' = max t s by clear ei; omega]
            exact r2
          | succ e ih2 =>
            intro t' he ht'
            have hts : t' < s := by omega
            have p1 : 2 ^ t' ≤ 2 ^ (s - 1) := Nat.pow_le_pow_right (by omega) (by omega)
            have hv2 : 2 ^ (s - 1) ≤ v := by
              rcases hsl with h | h
              · omega
              · exact h.2
            refine Ev.step (fun k => by rw [shapesearchref03_Width.l1]) (Ev.pos (by clear ei; omega) (Ev.pos (by clear ei; omega) (Ev.pos (by clear ei; omega) ?_)))
            rw [erd, ev, shl_one (by clear ei; omega), w_succ (i := t') (by clear ei; omega)]
            exact Ev.pos (by clear ei; omega) (ih2 (t' + 1) (by clear ei; omega) (by clear ei; omega))
        exact inner (max t s - t) t (by clear ei; omega) (Nat.le_refl _)
  exact key xs.length 0 0 (by omega) (by omega)
/-! ### both pack the same -/
theorem enc_uniq {b c : List Int} {w : Nat} {xs : List Int} (hb : Enc b w xs) (hc : Enc c w xs) : b = c := by
  have hl : b.length = c.length := by rw [hb.2.1, hc.2.1]
  refine List.ext_getElem hl (fun i h1 h2 => ?_)
  obtain ⟨x, ex, hx⟩ := byt_at hb.1 i
  obtain ⟨y, ey, hy⟩ := byt_at hc.1 i
  have e1 : b[i] = (x : Int) := by rw [← ex, getD_at b i h1]
  have e2 : c[i] = (y : Int) := by rw [← ey, getD_at c i h2]
  rw [e1, e2]
  congr 1
  apply Nat.eq_of_testBit_eq
  intro j
  by_cases hj : j < 8
  · have t1 := hb.2.2 (8 * i + j) (by omega)
    have t2 := hc.2.2 (8 * i + j) (by omega)
    rw [← t2] at t1
    unfold tb at t1
    rw [show (8 * i + j) / 8 = i by omega, show (8 * i + j) % 8 = j by omega, ex, ey, Int.toNat_natCast, Int.toNat_natCast] at t1
    exact t1
  · have p : (2 : Nat) ^ 8 ≤ 2 ^ j := Nat.pow_le_pow_right (by omega) (by omega)
    have k : (2 : Nat) ^ 8 = 256 := rfl
    rw [Nat.testBit_lt_two_pow (by omega), Nat.testBit_lt_two_pow (by omega)]
theorem pack_bad {w : Nat} (hw : w ≤ 32) {xs : List Int} (hn : xs.length ≤ 2000) (L : Nat) (hL : L = (w * xs.length + 7) / 8) (d : Nat) :
    ∀ (i : Nat) (b : List Int), i + d = xs.length → byt b → b.length = L → (∀ m, m < 8 * L → tb b m = (decide (m < i * w) && bx xs w m)) → (∃ j, i ≤ j ∧ j < xs.length ∧ ¬ (0 ≤ xs.getD j 0 ∧ xs.getD j 0 < ((2 ^ w : Nat) : Int))) →
      EvP (fun n => codec_Pack.l0 n (w : Int) b xs (xs.length : Int) (i : Int)) (fun r => r = ([], 1)) := by
  induction d with
  | zero =>
    intro i b hi hb hl ht hex
    obtain ⟨j, h1, h2, _⟩ := hex
    omega
  | succ d ih =>
    intro i b hi hb hl ht hex
    have hlt : i < xs.length := by omega
    refine EvP.step (fun n => by rw [codec_Pack.l0]) (EvP.pos (by omega) (EvP.pos (by omega) (EvP.pos (by omega) ?_)))
    rw [rd_getD, shl_one hw]
    by_cases h0 : xs.getD i 0 < 0
    · exact EvP.pos h0 (EvP.step (fun n => by rw [codec_Pack.j2]) (EvP.pos rfl (EvP.ret rfl)))
    refine EvP.neg h0 (EvP.pos (by omega) (EvP.step (fun n => by rw [codec_Pack.j2]) ?_))
    by_cases h1 : xs.getD i 0 ≥ ((2 ^ w : Nat) : Int)
    · exact EvP.pos (decide_eq_true h1) (EvP.ret rfl)
    · obtain ⟨v, ev⟩ := Int.eq_ofNat_of_zero_le (show 0 ≤ xs.getD i 0 by omega)
      refine EvP.neg (by rw [decide_eq_false h1]; simp) ?_
      refine pack_l1 hw hn i hlt ev (by omega) _ L hL (fun b' h1' h2 h3 => ih (i + 1) b' (by omega) h1' h2 h3 ?_) w 0 b (by omega) hb hl (fun m hm => by rw [ht m hm, Nat.add_zero])
      obtain ⟨j, h4, h5, h6⟩ := hex
      refine ⟨j, ?_, h5, h6⟩
      by_cases hji : j = i
      · rw [hji] at h6
        omega
      · omega
theorem packf_bad {w : Nat} (hw : w ≤ 32) {xs : List Int} (hn : xs.length ≤ 2000) (hex : ∃ j, j < xs.length ∧ ¬ (0 ≤ xs.getD j 0 ∧ xs.getD j 0 < ((2 ^ w : Nat) : Int))) : EvP (fun n => codec_Pack.f n xs (w : Int)) (fun r => r = ([], 1)) := by
  have hwn : w * xs.length ≤ 32 * 2000 := Nat.mul_le_mul hw hn
  unfold codec_Pack.f
  refine EvP.neg (by omega) (EvP.step (fun n => by rw [codec_Pack.j0]) (EvP.neg (by simp; omega) (EvP.neg (by omega) ?_)))
  rw [size_is hw hn]
  refine EvP.bind1 (Ev.now _) (EvP.pos (by omega) (EvP.pos (by omega) ?_))
  rw [Int.toNat_natCast]
  obtain ⟨j, h1, h2⟩ := hex
  refine pack_bad hw hn _ rfl xs.length 0 _ (by omega) (fun x hx => ?_) (by rw [List.length_replicate]) (fun m hm => ?_) ⟨j, by omega, h1, h2⟩
  · rw [(List.mem_replicate.1 hx).2]
    omega
  · rw [decide_eq_false (by omega), Bool.false_and]
    unfold tb
    rw [List.getD_eq_getElem?_getD, List.getElem?_replicate]
    split <;> simp
theorem refpack_l2 {w : Nat} (hw : w ≤ 32) {xs : List Int} (hn : xs.length ≤ 2000) (i : Nat) (hi : i < xs.length) {v : Nat} (ev : xs.getD i 0 = (v : Int)) (hv : v < 2 ^ w) (Q : List Int × Int → Prop) (L : Nat) (hL : L = (w * xs.length + 7) / 8)
    (next : ∀ b, byt b → b.length = L → (∀ m, m < 8 * L → tb b m = (decide (m < (i + 1) * w) && bx xs w m)) → EvP (fun k => shapesearchref03_Pack.l1 k xs (w : Int) b (xs.length : Int) ((i + 1 : Nat) : Int)) Q) (d : Nat) :
    ∀ (k : Nat) (b : List Int), k + d = w → byt b → b.length = L → (∀ m, m < 8 * L → tb b m = (decide (m < i * w + k) && bx xs w m)) →
      EvP (fun n => shapesearchref03_Pack.l2 n xs (w : Int) b (i : Int) (k : Int) (xs.length : Int) (i : Int)) Q := by
  have hwn : w * xs.length ≤ 64000 := Nat.mul_le_mul hw hn
  have hv32 : v < 9223372036854775808 := by
    have hp : (2 : Nat) ^ w ≤ 2 ^ 32 := Nat.pow_le_pow_right (by omega) hw
    have h32 : (2 : Nat) ^ 32 = 4294967296 := rfl
    omega
  induction d with
  | zero =>
    intro k b hk hb hl ht
    refine EvP.step (fun n => by rw [shapesearchref03_Pack.l2]) (EvP.neg (by omega) ?_)
    rw [w_succ (by omega)]
    refine next b hb hl (fun m hm => ?_)
    rw [ht m hm, Nat.add_mul, Nat.one_mul, show k = w by omega]
  | succ d ih =>
    intro k b hk hb hl ht
    have hkw : k < w := by omega
    have hlt := mul_lt_of hi hkw
    have hc := Nat.mul_comm w xs.length
    have hbx : bx xs w (i * w + k) = v.testBit k := by
      unfold bx
      rw [div_of hkw, mod_of hkw, ev, Int.toNat_natCast]
    have hia : (i * w + k) / 8 < b.length := by omega
    have ih' := ih (k + 1)
    clear ih
    have step : ∀ m : Nat, m < 8 * L → decide (m < i * w + (k + 1)) = (decide (m < i * w + k) || decide (m = i * w + k)) := by
      intro m hm
      rw [← Bool.decide_or, decide_eq_decide]
      omega
    refine EvP.step (fun n => by rw [shapesearchref03_Pack.l2]) (EvP.pos (by omega) (EvP.pos (by omega) (EvP.pos (by omega) (EvP.pos (by omega) ?_))))
    rw [w_pos (by omega), w_div8 (by omega), t_mod8, rd_getD xs, ev, w_succ (by omega), rd_getD]
    have hkd : k + 1 + d = w := by omega
    refine EvP.ite (fun ht1 => EvP.pos (by omega) (EvP.pos (by omega) (EvP.pos (by omega) ?_))) (fun ht1 => ?_)
    · have hbit := (test_i64 (by omega) hv32).1 ht1
      rw [Int.toNat_natCast]
      refine ih' _ hkd (tb_or hb (m := 0) hia).1 (by rw [List.length_set]; exact hl) (fun m hm => ?_)
      rw [(tb_or hb (m := m) hia).2, ht m hm, step m hm]
      by_cases hmm : m = i * w + k
      · rw [hmm, hbx, hbit]
        simp
      · rw [decide_eq_false hmm, Bool.or_false, Bool.or_false]
    · have hbit : v.testBit k = false := by
        cases h : v.testBit k with
        | false => rfl
        | true => exact absurd ((test_i64 (by omega) hv32).2 h) ht1
      refine ih' b hkd hb hl (fun m hm => ?_)
      rw [ht m hm, step m hm]
      by_cases hmm : m = i * w + k
      · rw [hmm, hbx, hbit]
        simp
      · rw [decide_eq_false hmm, Bool.or_false]
theorem refpack_l1 {w : Nat} (hw : w ≤ 32) {xs : List Int} (hn : xs.length ≤ 2000) (hf : Fit w xs) (L : Nat) (hL : L = (w * xs.length + 7) / 8) (d : Nat) :
    ∀ (i : Nat) (b : List Int), i + d = xs.length → byt b → b.length = L → (∀ m, m < 8 * L → tb b m = (decide (m < i * w) && bx xs w m)) →
      EvP (fun n => shapesearchref03_Pack.l1 n xs (w : Int) b (xs.length : Int) (i : Int)) (fun r => r.2 = 0 ∧ Enc r.1 w xs) := by
  induction d with
  | zero =>
    intro i b hi hb hl ht
    refine EvP.step (fun n => by rw [shapesearchref03_Pack.l1]) (EvP.neg (by omega) (EvP.ret ⟨rfl, hb, by rw [hl, hL], fun m hm => ?_⟩))
    dsimp only at hm
    rw [hl] at hm
    rw [ht m hm, show i = xs.length by omega]
  | succ d ih =>
    intro i b hi hb hl ht
    have hlt : i < xs.length := by omega
    obtain ⟨v, ev, hv⟩ := fit_at hf i hlt
    refine EvP.step (fun n => by rw [shapesearchref03_Pack.l1]) (EvP.pos (by omega) ?_)
    exact refpack_l2 hw hn i hlt ev hv _ L hL (fun b' h1 h2 h3 => ih (i + 1) b' (by omega) h1 h2 h3) w 0 b (by omega) hb hl (fun m hm => by rw [ht m hm, Nat.add_zero])
theorem size2_is {w n : Nat} (hw : w ≤ 32) (hn : n ≤ 2000) : wrap64 (Int.tdiv (wrap64 ((wrap64 ((n : Int) * (w : Int))) + 7)) 8) = (((w * n + 7) / 8 : Nat) : Int) := by
  have hwn : w * n ≤ 64000 := Nat.mul_le_mul hw hn
  rw [← Int.natCast_mul, Nat.mul_comm n w, w64 (n := ((w * n : Nat) : Int)) (by omega) (by omega), w64 (n := ((w * n : Nat) : Int) + 7) (by omega) (by omega), Int.tdiv_eq_ediv_of_nonneg (by omega), w64 (by omega) (by omega)]
  rfl
theorem refpack_is {w : Nat} (hw : w ≤ 32) {xs : List Int} (hn : xs.length ≤ 2000) (hf : Fit w xs) : EvP (fun n => shapesearchref03_Pack.f n xs (w : Int)) (fun r => r.2 = 0 ∧ Enc r.1 w xs) := by
  have hwn : w * xs.length ≤ 64000 := Nat.mul_le_mul hw hn
  have chk : ∀ (d i : Nat), i + d = xs.length → EvP (fun n => shapesearchref03_Pack.l0 n xs (w : Int) (xs.length : Int) (i : Int)) (fun r => r.2 = 0 ∧ Enc r.1 w xs) := by
    intro d
    induction d with
    | zero =>
      intro i hi
      refine EvP.step (fun n => by rw [shapesearchref03_Pack.l0]) (EvP.neg (by omega) ?_)
      rw [size2_is hw hn]
      refine EvP.pos (by omega) (EvP.pos (by omega) ?_)
      rw [Int.toNat_natCast]
      refine refpack_l1 hw hn hf _ rfl xs.length 0 _ (by omega) (fun x hx => ?_) (by rw [List.length_replicate]) (fun m hm => ?_)
      · rw [(List.mem_replicate.1 hx).2]
        omega
      · rw [decide_eq_false (by omega), Bool.false_and]
        unfold tb
        rw [List.getD_eq_getElem?_getD, List.getElem?_replicate]
        split <;> simp
    | succ d ih =>
      intro i hi
      have hlt : i < xs.length := by omega
      obtain ⟨v, ev, hv⟩ := fit_at hf i hlt
      refine EvP.step (fun n => by rw [shapesearchref03_Pack.l0]) (EvP.pos (by omega) (EvP.pos (by omega) (EvP.pos (by omega) ?_)))
      rw [rd_getD, shl_one hw, w_succ (by omega)]
      exact EvP.neg (by rw [ev]; omega) (EvP.pos (by omega) (EvP.neg (by rw [ev]; omega) (ih (i + 1) (by omega))))
  unfold shapesearchref03_Pack.f
  refine EvP.neg (by omega) (EvP.step (fun n => by rw [shapesearchref03_Pack.j0]) (EvP.neg (by simp; omega) (EvP.neg (by omega) ?_)))
  exact chk xs.length 0 (by omega)
theorem refpack_bad {w : Nat} (hw : w ≤ 32) {xs : List Int} (hn : xs.length ≤ 2000) (hex : ∃ j, j < xs.length ∧ ¬ (0 ≤ xs.getD j 0 ∧ xs.getD j 0 < ((2 ^ w : Nat) : Int))) : Ev (fun n => shapesearchref03_Pack.f n xs (w : Int)) ([], 1) := by
  have chk : ∀ (d i : Nat), i + d = xs.length → (∃ j, i ≤ j ∧ j < xs.length ∧ ¬ (0 ≤ xs.getD j 0 ∧ xs.getD j 0 < ((2 ^ w : Nat) : Int))) → Ev (fun n => shapesearchref03_Pack.l0 n xs (w : Int) (xs.length : Int) (i : Int)) ([], 1) := by
    intro d
    induction d with
    | zero =>
      intro i hi hx
      obtain ⟨j, h1, h2, _⟩ := hx
      omega
    | succ d ih =>
      intro i hi hx
      refine Ev.step (fun n => by rw [shapesearchref03_Pack.l0]) (Ev.pos (by omega) (Ev.pos (by omega) (Ev.pos (by omega) ?_)))
      rw [rd_getD, shl_one hw, w_succ (by omega)]
      by_cases h0 : xs.getD i 0 < 0
      · exact Ev.pos h0 (Ev.now _)
      by_cases h1 : xs.getD i 0 ≥ ((2 ^ w : Nat) : Int)
      · exact Ev.neg h0 (Ev.pos (by omega) (Ev.pos h1 (Ev.now _)))
      · refine Ev.neg h0 (Ev.pos (by omega) (Ev.neg h1 (ih (i + 1) (by omega) ?_)))
        obtain ⟨j, h4, h5, h6⟩ := hx
        refine ⟨j, ?_, h5, h6⟩
        by_cases hji : j = i
        · rw [hji] at h6
          omega
        · omega
  obtain ⟨j, h1, h2⟩ := hex
  unfold shapesearchref03_Pack.f
  refine Ev.neg (by omega) (Ev.step (fun n => by rw [shapesearchref03_Pack.j0]) (Ev.neg (by simp; omega) (Ev.neg (by omega) ?_)))
  exact chk xs.length 0 (by omega) ⟨j, by omega, h1, h2⟩
theorem both_pack (xs : List Int) (hn : xs.length ≤ 300) (w : Int) : ∃ r : List Int × Int, Ev (fun k => codec_Pack.f k xs w) r ∧ Ev (fun k => shapesearchref03_Pack.f k xs w) r ∧ byt r.1 ∧ r.1.length ≤ 2000 := by
  have nob : byt [] := fun x h => by cases h
  by_cases hw : w < 0
  · unfold codec_Pack.f shapesearchref03_Pack.f
    exact ⟨([], 1), Ev.pos hw (Ev.step (fun n => by rw [codec_Pack.j0]) (Ev.pos rfl (Ev.now _))), Ev.pos hw (Ev.step (fun n => by rw [shapesearchref03_Pack.j0]) (Ev.pos rfl (Ev.now _))), nob, Nat.zero_le _⟩
  by_cases hw2 : w > 32
  · unfold codec_Pack.f shapesearchref03_Pack.f
    rw [decide_eq_true hw2]
    exact ⟨([], 1), Ev.neg hw (Ev.step (fun n => by rw [codec_Pack.j0]) (Ev.pos rfl (Ev.now _))), Ev.neg hw (Ev.step (fun n => by rw [shapesearchref03_Pack.j0]) (Ev.pos rfl (Ev.now _))), nob, Nat.zero_le _⟩
  obtain ⟨n, rfl⟩ := Int.eq_ofNat_of_zero_le (show 0 ≤ w by omega)
  have hn32 : n ≤ 32 := by omega
  have hwn : n * xs.length ≤ 32 * 300 := Nat.mul_le_mul hn32 hn
  by_cases hex : ∃ j, j < xs.length ∧ ¬ (0 ≤ xs.getD j 0 ∧ xs.getD j 0 < ((2 ^ n : Nat) : Int))
  · exact ⟨([], 1), (packf_bad hn32 (by omega) hex).ev, refpack_bad hn32 (by omega) hex, nob, Nat.zero_le _⟩
  · have hf : Fit n xs := by
      intro x hx
      obtain ⟨j, hj, rfl⟩ := List.getElem_of_mem hx
      have ep : (2 : Int) ^ n = ((2 ^ n : Nat) : Int) := by push_cast; rfl
      rw [ep, ← getD_at xs j hj]
      exact Classical.byContradiction fun h => hex ⟨j, hj, h⟩
    obtain ⟨r, r1, r2, r3⟩ := pack_is hn32 (by omega) hf
    obtain ⟨q, q1, q2, q3⟩ := refpack_is hn32 (by omega) hf
    have e : q = r := Prod.ext (enc_uniq q3 r3) (q2.trans r2.symm)
    rw [e] at q1
    exact ⟨r, r1, q1, r3.1, by rw [r3.2.1]; omega⟩
/-! ### both unpack the same -/
theorem bit_b2 : ∀ x < 256, ∀ j < 8, Go.bits .and .u8 (shr .u8 ((x : Nat) : Int) ((j : Nat) : Int)) 1 = if x.testBit j then 1 else 0 := by decide +kernel
theorem acc_nat {b : List Int} (hb : byt b) {w i : Nat} : ∀ k, k ≤ 32 → ∃ a : Nat, a < 2 ^ k ∧ X.acc (X.bitz b) w i k = (a : Int)
  | 0, _ => ⟨0, by decide, rfl⟩
  | k + 1, hk => by
    obtain ⟨a, h1, h2⟩ := acc_nat hb (w := w) (i := i) k (by omega)
    have hp : (2 : Nat) ^ k ≤ 2 ^ 31 := Nat.pow_le_pow_right (by omega) (by omega)
    have h31 : (2 : Nat) ^ 31 = 2147483648 := rfl
    have hs : (2 : Nat) ^ (k + 1) = 2 * 2 ^ k := by rw [Nat.pow_succ, Nat.mul_comm]
    show ∃ a' : Nat, a' < 2 ^ (k + 1) ∧ Go.bits .or .i64 (X.acc (X.bitz b) w i k) (shl .i64 (X.bitz b (i * w + k)) (k : Int)) = (a' : Int)
    rw [h2, bitz_is hb]
    cases tb b (i * w + k) with
    | true =>
      have e1 := shl_i64 (v := 1) (k := k) (by omega) (by omega)
      have e2 := or_i64 (u := a) (v := 1) (j := k) h1 (by omega)
      refine ⟨a + 1 * 2 ^ k, by omega, ?_⟩
      rw [← e2, ← e1]
      rfl
    | false =>
      have e1 := shl_i64 (v := 0) (k := k) (by omega) (by omega)
      have e2 := or_i64 (u := a) (v := 0) (j := k) h1 (by omega)
      refine ⟨a + 0 * 2 ^ k, by omega, ?_⟩
      rw [← e2, ← e1]
      rfl
theorem acc_no {b : List Int} (hb : byt b) {w i k : Nat} (hk : k < 32) (h : tb b (i * w + k) = false) : X.acc (X.bitz b) w i (k + 1) = X.acc (X.bitz b) w i k := by
  obtain ⟨a, h1, h2⟩ := acc_nat hb (w := w) (i := i) k (by omega)
  have hp : (2 : Nat) ^ k ≤ 2 ^ 31 := Nat.pow_le_pow_right (by omega) (by omega)
  have h31 : (2 : Nat) ^ 31 = 2147483648 := rfl
  have e1 := shl_i64 (v := 0) (k := k) (by omega) (by omega)
  have e2 := or_i64 (u := a) (v := 0) (j := k) h1 (by omega)
  rw [← e1, Nat.zero_mul, Nat.add_zero] at e2
  show Go.bits .or .i64 (X.acc (X.bitz b) w i k) (shl .i64 (X.bitz b (i * w + k)) (k : Int)) = _
  rw [h2, bitz_is hb, h]
  exact e2
theorem acc_yes {b : List Int} (hb : byt b) {w i k : Nat} (h : tb b (i * w + k) = true) : X.acc (X.bitz b) w i (k + 1) = Go.bits .or .i64 (X.acc (X.bitz b) w i k) (shl .i64 1 (k : Int)) := by
  show Go.bits .or .i64 (X.acc (X.bitz b) w i k) (shl .i64 (X.bitz b (i * w + k)) (k : Int)) = _
  rw [bitz_is hb, h]
  rfl
/-- The numbers behind the first p bits. -/
def cur (b : List Int) (w n p : Nat) : List Int := (List.range n).map fun i => X.acc (X.bitz b) w i (min w (p - i * w))
theorem cur_len (b : List Int) (w n p : Nat) : (cur b w n p).length = n := by unfold cur; simp
theorem cur_get (b : List Int) (w n p i : Nat) (h : i < (cur b w n p).length) : (cur b w n p)[i] = X.acc (X.bitz b) w i (min w (p - i * w)) := by simp only [cur, List.getElem_map, List.getElem_range]
theorem cur_at (b : List Int) (w n p i : Nat) (h : i < n) : (cur b w n p).getD i 0 = X.acc (X.bitz b) w i (min w (p - i * w)) := by
  rw [getD_at _ _ (by rw [cur_len]; exact h), cur_get]
theorem cur_zero (b : List Int) (w n : Nat) : cur b w n 0 = List.replicate n 0 := by
  refine List.ext_getElem (by rw [cur_len, List.length_replicate]) (fun i h1 h2 => ?_)
  rw [cur_get, List.getElem_replicate, Nat.zero_sub, Nat.min_zero]
  rfl
theorem cur_end (b : List Int) (w n : Nat) : cur b w n (n * w) = X.unp (X.bitz b) w n := by
  unfold cur X.unp
  refine List.map_congr_left (fun i hi => ?_)
  have h := List.mem_range.1 hi
  have h3 : (i + 1) * w ≤ n * w := Nat.mul_le_mul_right w (by omega)
  rw [Nat.add_mul, Nat.one_mul] at h3
  rw [Nat.min_eq_left (by omega)]
theorem cur_succ (b : List Int) (w n q r : Nat) (hr : r < w) (hq : q < n) : cur b w n (q * w + r + 1) = (cur b w n (q * w + r)).set q (X.acc (X.bitz b) w q (r + 1)) := by
  refine List.ext_getElem (by rw [List.length_set, cur_len, cur_len]) (fun i h1 h2 => ?_)
  have hin : i < n := by rw [cur_len] at h1; exact h1
  by_cases h : q = i
  · subst h
    rw [List.getElem_set_self, cur_get, show q * w + r + 1 - q * w = r + 1 by omega, Nat.min_eq_right (by omega)]
  · rw [List.getElem_set_ne h, cur_get, cur_get]
    congr 1
    by_cases hlt : i < q
    · have h3 : (i + 1) * w ≤ q * w := Nat.mul_le_mul_right w (by omega)
      rw [Nat.add_mul, Nat.one_mul] at h3
      rw [Nat.min_eq_left (by omega), Nat.min_eq_left (by omega)]
    · have h3 : (q + 1) * w ≤ i * w := Nat.mul_le_mul_right w (by omega)
      rw [Nat.add_mul, Nat.one_mul] at h3
      rw [show q * w + r + 1 - i * w = 0 by omega, show q * w + r - i * w = 0 by omega]
theorem bit_is {b : List Int} (hb : byt b) (p : Nat) : Go.bits .and .u8 (shr .u8 (rd b ((p / 8 : Nat) : Int)) ((p % 8 : Nat) : Int)) 1 = if tb b p then 1 else 0 := by
  obtain ⟨x, ex, hx⟩ := byt_at hb (p / 8)
  rw [rd_getD, ex, bit_b2 x hx (p % 8) (by omega)]
  unfold tb
  rw [ex, Int.toNat_natCast]
theorem unp_tail {b : List Int} (hb : byt b) (hl : b.length ≤ 10000) {w n : Nat} (hw : w ≤ 32) (hn : n ≤ 2000) (x8 : List Int) (d : Nat) :
    ∀ p, p + d = 8 * b.length → n * w ≤ p → ((∀ m, p ≤ m → m < 8 * b.length → tb b m = false) → Ev (fun k => shapesearchref03_Unpack.l0 k b (w : Int) (n : Int) x8 (p : Int)) (x8, 0)) ∧ ((∃ m, p ≤ m ∧ m < 8 * b.length ∧ tb b m = true) → Ev (fun k => shapesearchref03_Unpack.l0 k b (w : Int) (n : Int) x8 (p : Int)) ([], 3)) := by
  have hnw : n * w ≤ 2000 * 32 := Nat.mul_le_mul hn hw
  have e8 : wrap64 ((b.length : Int) * 8) = ((8 * b.length : Nat) : Int) := by rw [w64 (by omega) (by omega)]; omega
  have enw : wrap64 ((n : Int) * (w : Int)) = ((n * w : Nat) : Int) := w_mul (by omega)
  induction d with
  | zero =>
    intro p hp hpn
    refine ⟨fun _ => ?_, fun h => ?_⟩
    · refine Ev.step (fun k => by rw [shapesearchref03_Unpack.l0]) ?_
      rw [e8]
      clear e8 enw
      exact Ev.neg (by omega) (Ev.now _)
    · obtain ⟨m, h1, h2, _⟩ := h
      clear e8 enw
      omega
  | succ d ih =>
    intro p hp hpn
    have ih1 := ih (p + 1) (by clear e8 enw; omega) (by clear e8 enw; omega)
    have f1 : (p : Int) < ((8 * b.length : Nat) : Int) := by clear e8 enw; omega
    have f2 : p ≤ 1000000 := by clear e8 enw; omega
    have f3 : ((p / 8 : Nat) : Int) < (b.length : Int) := by clear e8 enw; omega
    have f4 : (p : Int) ≥ ((n * w : Nat) : Int) := by clear e8 enw; omega
    have eb := bit_is hb p
    have go : ∀ R, ((tb b p = false → Ev (fun k => shapesearchref03_Unpack.l0 k b (w : Int) (n : Int) x8 ((p + 1 : Nat) : Int)) R) ∧ (tb b p = true → R = ([], 3))) → Ev (fun k => shapesearchref03_Unpack.l0 k b (w : Int) (n : Int) x8 (p : Int)) R := by
      intro R hR
      refine Ev.step (fun k => by rw [shapesearchref03_Unpack.l0]) ?_
      rw [e8, enw, w_div8 f2, t_mod8, eb, w_succ (i := p) (by clear e8 enw; omega)]
      refine Ev.pos f1 (Ev.pos (Int.natCast_nonneg _) (Ev.pos f3 (Ev.pos (Int.natCast_nonneg _) ?_)))
      cases ht : tb b p with
      | false => exact Ev.pos (by simp) (hR.1 ht)
      | true =>
        rw [hR.2 ht]
        exact Ev.neg (by simp) (Ev.pos f4 (Ev.now _))
    refine ⟨fun h => go _ ⟨fun _ => ih1.1 (fun m h1 h2 => h m (by clear e8 enw; omega) h2), fun ht => ?_⟩, fun h => go _ ⟨fun ht => ih1.2 ?_, fun _ => rfl⟩⟩
    · rw [h p (Nat.le_refl _) (by clear e8 enw; omega)] at ht
      cases ht
    · obtain ⟨m, h1, h2, h3⟩ := h
      refine ⟨m, ?_, h2, h3⟩
      by_cases hm : m = p
      · rw [hm, ht] at h3
        cases h3
      · clear e8 enw
        omega
theorem unp_head {b : List Int} (hb : byt b) (hl : b.length ≤ 10000) {w n : Nat} (hw : w ≤ 32) (hn : n ≤ 2000) (hnb : n * w ≤ 8 * b.length) (R : List Int × Int) (hR : Ev (fun k => shapesearchref03_Unpack.l0 k b (w : Int) (n : Int) (cur b w n (n * w)) ((n * w : Nat) : Int)) R) (d : Nat) :
    ∀ p, p + d = n * w → Ev (fun k => shapesearchref03_Unpack.l0 k b (w : Int) (n : Int) (cur b w n p) (p : Int)) R := by
  have hnw : n * w ≤ 2000 * 32 := Nat.mul_le_mul hn hw
  have e8 : wrap64 ((b.length : Int) * 8) = ((8 * b.length : Nat) : Int) := by rw [w64 (by omega) (by omega)]; omega
  have enw : wrap64 ((n : Int) * (w : Int)) = ((n * w : Nat) : Int) := w_mul (by omega)
  induction d with
  | zero =>
    intro p hp
    rw [show p = n * w by clear e8 enw; omega]
    exact hR
  | succ d ih =>
    intro p hp
    have ih1 := ih (p + 1) (by clear e8 enw; omega)
    have hw0 : 0 < w := by
      rcases Nat.eq_zero_or_pos w with h | h
      · rw [h, Nat.mul_zero] at hp
        clear e8 enw
        omega
      · exact h
    have hr := Nat.mod_lt p hw0
    have hdm : p = p / w * w + p % w := by rw [Nat.mul_comm]; exact (Nat.div_add_mod p w).symm
    have hq : p / w < n := Nat.div_lt_of_lt_mul (by rw [Nat.mul_comm]; clear e8 enw; omega)
    have f1 : (p : Int) < ((8 * b.length : Nat) : Int) := by clear e8 enw; omega
    have f2 : p ≤ 1000000 := by clear e8 enw; omega
    have f3 : ((p / 8 : Nat) : Int) < (b.length : Int) := by clear e8 enw; omega
    have f4 : ¬ (p : Int) ≥ ((n * w : Nat) : Int) := by clear e8 enw; omega
    have f5 : ¬ (w : Int) = 0 := by clear e8 enw; omega
    have f6 : ((p / w : Nat) : Int) < ((cur b w n p).length : Int) := by rw [cur_len]; clear e8 enw; omega
    have eb := bit_is hb p
    have hs := cur_succ b w n (p / w) (p % w) hr hq
    rw [← hdm] at hs
    have hat := cur_at b w n p (p / w) hq
    rw [show min w (p - p / w * w) = p % w by
      have : p - p / w * w = p % w := by clear e8 enw; omega
      rw [this]
      exact Nat.min_eq_right (by clear e8 enw; omega)] at hat
    refine Ev.step (fun k => by rw [shapesearchref03_Unpack.l0]) ?_
    rw [e8, enw, w_div8 f2, t_mod8, eb, w_succ (i := p) (by clear e8 enw; omega)]
    refine Ev.pos f1 (Ev.pos (Int.natCast_nonneg _) (Ev.pos f3 (Ev.pos (Int.natCast_nonneg _) ?_)))
    cases ht : tb b p with
    | false =>
      refine Ev.pos (by simp) ?_
      have hno := acc_no hb (w := w) (i := p / w) (k := p % w) (by clear e8 enw; omega) (by rw [← hdm]; exact ht)
      have e : cur b w n (p + 1) = cur b w n p := by
        rw [hs, hno, ← hat]
        refine List.ext_getElem (by rw [List.length_set]) (fun i h1 h2 => ?_)
        by_cases h : p / w = i
        · subst h
          rw [List.getElem_set_self, getD_at _ _ h2]
        · rw [List.getElem_set_ne h]
      rw [e] at ih1
      exact ih1
    | true =>
      have hyes := acc_yes hb (w := w) (i := p / w) (k := p % w) (by rw [← hdm]; exact ht)
      rw [hs, hyes, ← hat] at ih1
      refine Ev.neg (by simp) (Ev.neg f4 (Ev.neg f5 ?_))
      rw [w_div (w := w) f2, t_mod, rd_getD, Int.toNat_natCast]
      exact Ev.pos (Int.natCast_nonneg _) (Ev.pos f6 (Ev.pos (Int.natCast_nonneg _) ih1))
theorem pad_iff {b : List Int} (hb : byt b) (p : Nat) : X.padb (X.bitz b) p (8 * b.length) = true ↔ ∀ m, p ≤ m → m < 8 * b.length → tb b m = false := by
  unfold X.padb
  rw [List.all_eq_true]
  constructor
  · intro h m h1 h2
    have := h (m - p) (List.mem_range.2 (by omega))
    rw [beq_iff_eq, show p + (m - p) = m by omega, bitz_is hb] at this
    cases ht : tb b m with
    | false => rfl
    | true => rw [ht] at this; exact absurd this (by decide)
  · intro h j hj
    have := List.mem_range.1 hj
    rw [beq_iff_eq, bitz_is hb, h (p + j) (by omega) (by omega)]
    rfl
theorem both_unpack (b : List Int) (hb : byt b) (hl : b.length ≤ 10000) (w n : Int) : ∃ r : List Int × Int, codec_Unpack.f b w n = some r ∧ Ev (fun k => shapesearchref03_Unpack.f k b w n) r ∧ r.1.length ≤ 2000 := by
  unfold codec_Unpack.f shapesearchref03_Unpack.f
  by_cases hw : w < 0
  · exact ⟨([], 1), if_pos (.inl hw), Ev.pos hw (Ev.step (fun k => by rw [shapesearchref03_Unpack.j0]) (Ev.pos rfl (Ev.now _))), Nat.zero_le _⟩
  by_cases hw2 : w > 32
  · rw [decide_eq_true hw2]
    exact ⟨([], 1), if_pos (.inr hw2), Ev.neg hw (Ev.step (fun k => by rw [shapesearchref03_Unpack.j0]) (Ev.pos rfl (Ev.now _))), Nat.zero_le _⟩
  rw [decide_eq_false hw2, if_neg (show ¬ (w < 0 ∨ 32 < w) by omega)]
  obtain ⟨u, rfl⟩ := Int.eq_ofNat_of_zero_le (show 0 ≤ w by omega)
  have hu : u ≤ 32 := by omega
  have pre : ∀ R, Ev (fun k => if n < 0 then shapesearchref03_Unpack.j1 k b (u : Int) n true else shapesearchref03_Unpack.j1 k b (u : Int) n (decide (n > 2000))) R → Ev (fun k => if (u : Int) < 0 then shapesearchref03_Unpack.j0 k b (u : Int) n true else shapesearchref03_Unpack.j0 k b (u : Int) n false) R := fun R h => Ev.neg hw (Ev.step (fun k => by rw [shapesearchref03_Unpack.j0]) (Ev.neg (by decide) h))
  by_cases hn : n < 0
  · exact ⟨([], 4), if_pos (.inl hn), pre _ (Ev.pos hn (Ev.step (fun k => by rw [shapesearchref03_Unpack.j1]) (Ev.pos rfl (Ev.now _)))), Nat.zero_le _⟩
  by_cases hn2 : n > 2000
  · refine ⟨([], 4), if_pos (.inr hn2), pre _ (Ev.neg hn ?_), Nat.zero_le _⟩
    rw [decide_eq_true hn2]
    exact Ev.step (fun k => by rw [shapesearchref03_Unpack.j1]) (Ev.pos rfl (Ev.now _))
  rw [if_neg (show ¬ (n < 0 ∨ 2000 < n) by omega)]
  obtain ⟨v, rfl⟩ := Int.eq_ofNat_of_zero_le (show 0 ≤ n by omega)
  have hv : v ≤ 2000 := by omega
  have huv : u * v ≤ 32 * 2000 := Nat.mul_le_mul hu hv
  have pre2 : ∀ R, Ev (fun k => if (b.length : Int) < (((u * v + 7) / 8 : Nat) : Int) then some (([] : List Int), (2 : Int)) else (if (b.length : Int) > (((u * v + 7) / 8 : Nat) : Int) then some ([], 3) else shapesearchref03_Unpack.l0 k b (u : Int) (v : Int) (List.replicate v 0) 0)) R → Ev (fun k => if (u : Int) < 0 then shapesearchref03_Unpack.j0 k b (u : Int) (v : Int) true else shapesearchref03_Unpack.j0 k b (u : Int) (v : Int) false) R := by
    intro R h
    refine pre R (Ev.neg hn ?_)
    rw [decide_eq_false hn2]
    refine Ev.step (fun k => by rw [shapesearchref03_Unpack.j1]) (Ev.neg (by decide) ?_)
    rw [size2_is hu hv]
    by_cases h1 : (b.length : Int) < (((u * v + 7) / 8 : Nat) : Int)
    · simp only [if_pos h1] at h ⊢
      exact h
    by_cases h2 : (b.length : Int) > (((u * v + 7) / 8 : Nat) : Int)
    · simp only [if_neg h1, if_pos h2] at h ⊢
      exact h
    · simp only [if_neg h1, if_neg h2, Int.toNat_natCast] at h ⊢
      exact Ev.pos (Int.natCast_nonneg _) (Ev.pos (by omega) h)
  rw [size_is hu hv]
  simp only [Option.bind_some, Int.toNat_natCast]
  by_cases he : (b.length : Int) = (((u * v + 7) / 8 : Nat) : Int)
  · rw [if_pos he, if_pos trivial]
    have hvu : v * u = u * v := Nat.mul_comm v u
    have tail := unp_tail hb hl hu hv (cur b u v (v * u)) (8 * b.length - v * u) (v * u) (by omega) (Nat.le_refl _)
    have head : ∀ R, Ev (fun k => shapesearchref03_Unpack.l0 k b (u : Int) (v : Int) (cur b u v (v * u)) ((v * u : Nat) : Int)) R → Ev (fun k => if (b.length : Int) < (((u * v + 7) / 8 : Nat) : Int) then some (([] : List Int), (2 : Int)) else (if (b.length : Int) > (((u * v + 7) / 8 : Nat) : Int) then some ([], 3) else shapesearchref03_Unpack.l0 k b (u : Int) (v : Int) (List.replicate v 0) 0)) R := by
      intro R h
      have := unp_head hb hl hu hv (by omega) R h (v * u) 0 (by omega)
      rw [cur_zero] at this
      exact Ev.neg (by omega) (Ev.neg (by omega) this)
    by_cases hp : X.padb (X.bitz b) (u * v) (8 * b.length) = true
    · rw [if_pos hp]
      refine ⟨_, rfl, pre2 _ (head _ ?_), by rw [X.unp_len]; exact hv⟩
      rw [← cur_end]
      exact tail.1 (by rw [hvu]; exact (pad_iff hb _).1 hp)
    · rw [if_neg hp]
      refine ⟨_, rfl, pre2 _ (head _ (tail.2 ?_)), Nat.zero_le _⟩
      rw [pad_iff hb] at hp
      refine Classical.byContradiction fun h => hp fun m h1 h2 => ?_
      cases ht : tb b m with
      | false => rfl
      | true => exact absurd ⟨m, by omega, h2, ht⟩ h
  · rw [if_neg he]
    by_cases h1 : (b.length : Int) < (((u * v + 7) / 8 : Nat) : Int)
    · rw [if_pos h1]
      exact ⟨_, rfl, pre2 _ (Ev.pos h1 (Ev.now _)), Nat.zero_le _⟩
    · rw [if_neg h1]
      exact ⟨_, rfl, pre2 _ (Ev.neg h1 (Ev.pos (by omega) (Ev.now _))), Nat.zero_le _⟩
/-! ### the law -/
theorem awake_is : Ev (fun k => shapesearchlaw03_awake.f k) true := Ev.of shapesearchlaw03_awake.mono (k := 40) (by decide +kernel)
theorem both_int (b : List Int) (hb : byt b) (hl : b.length ≤ 900) (x : Int) : ∃ r : Int × Int × Int, Ev (fun k => codec_Int.f k b x) r ∧ Ev (fun k => shapesearchref03_Int.f k b x) r := by
  by_cases h0 : x < 0
  · unfold codec_Int.f shapesearchref03_Int.f
    exact ⟨(0, 0, 1), Ev.pos h0 (Ev.step (fun k => by rw [codec_Int.j0]) (Ev.pos rfl (Ev.now _))), Ev.pos h0 (Ev.step (fun k => by rw [shapesearchref03_Int.j0]) (Ev.pos rfl (Ev.now _)))⟩
  by_cases h1 : x > (b.length : Int)
  · unfold codec_Int.f shapesearchref03_Int.f
    rw [decide_eq_true h1]
    exact ⟨(0, 0, 1), Ev.neg h0 (Ev.step (fun k => by rw [codec_Int.j0]) (Ev.pos rfl (Ev.now _))), Ev.neg h0 (Ev.step (fun k => by rw [shapesearchref03_Int.j0]) (Ev.pos rfl (Ev.now _)))⟩
  obtain ⟨i, rfl⟩ := Int.eq_ofNat_of_zero_le (show 0 ≤ x by omega)
  exact ⟨_, cint_is b hb i (by omega) (by omega), rint_is b hb i (by omega) (by omega)⟩
theorem rdL2_nat (l : List (List Int)) (i : Nat) (h : i < l.length) : rd_L2 l (i : Int) = l[i] := by
  unfold rd_L2
  rw [Int.toNat_natCast, List.getD_eq_getElem?_getD, List.getElem?_eq_getElem h]
  rfl
theorem rdL3_nat (l : List (List Int)) (i : Nat) (h : i < l.length) : rd_L3 l (i : Int) = l[i] := by
  unfold rd_L3
  rw [Int.toNat_natCast, List.getD_eq_getElem?_getD, List.getElem?_eq_getElem h]
  rfl
theorem ans_l6 (x0 x37 x45 : List Int) (x4 x5 x39 : Int) (x175 : List (List Int)) (x176 x177 : Int) (x192 : List Int) (x193 x194 : Int) (x227 : List (List Int)) (x228 x229 : Int) (ks : List Int) (h45 : byt x45) (l45 : x45.length ≤ 10000) (lk : ks.length ≤ 1000)
    (next : EvP (fun k => shapesearchlaw03_CodecAnswers.l5 k x0 x4 x5 x37 x39 x175 x176 x177 x192 x193 x194 x227 x228 (wrap64 (x229 + 1))) (fun x => x = true)) :
    ∀ (d j : Nat), j + d = ks.length → EvP (fun k => shapesearchlaw03_CodecAnswers.l6 k x0 x4 x5 x37 x39 x45 x175 x176 x177 x192 x193 x194 x227 x228 x229 ks (ks.length : Int) (j : Int)) (fun x => x = true) := by
  intro d
  induction d with
  | zero =>
    intro j hj
    exact EvP.step (fun k => by rw [shapesearchlaw03_CodecAnswers.l6]) (EvP.neg (by omega) next)
  | succ d ih =>
    intro j hj
    obtain ⟨r, e1, r2, lr⟩ := both_unpack x45 h45 l45 x39 (rd ks (j : Int))
    have ih1 := ih (j + 1) (by omega)
    refine EvP.step (fun k => by rw [shapesearchlaw03_CodecAnswers.l6]) (EvP.pos (by omega) (EvP.pos (by omega) (EvP.pos (by omega) ?_)))
    rw [e1, w_succ (by omega)]
    exact EvP.bind1 (Ev.now _) (EvP.bind1 r2 (EvP.bind1 (keep_Ints_is r.1 r.1 (by omega)) (EvP.pos (decide_eq_true rfl) (EvP.pos rfl ih1))))
theorem ans_l5 (x0 x37 : List Int) (x4 x5 x39 : Int) (h5 : -9223372036854775808 ≤ x5 ∧ x5 ≤ 9223372036854775807) (x175 : List (List Int)) (x176 x177 : Int) (x192 : List Int) (x193 x194 : Int) (zs : List (List Int)) (hz : ∀ z ∈ zs, byt z ∧ z.length ≤ 10000) (lz : zs.length ≤ 1000)
    (next : EvP (fun k => shapesearchlaw03_CodecAnswers.l4 k x0 x4 x5 x37 x175 x176 x177 x192 x193 (wrap64 (x194 + 1))) (fun x => x = true)) :
    ∀ (d i : Nat), i + d = zs.length → EvP (fun k => shapesearchlaw03_CodecAnswers.l5 k x0 x4 x5 x37 x39 x175 x176 x177 x192 x193 x194 zs (zs.length : Int) (i : Int)) (fun x => x = true) := by
  intro d
  induction d with
  | zero =>
    intro i hi
    exact EvP.step (fun k => by rw [shapesearchlaw03_CodecAnswers.l5]) (EvP.neg (by omega) next)
  | succ d ih =>
    intro i hi
    have hlt : i < zs.length := by omega
    have hzi := hz _ (List.getElem_mem hlt)
    have ih1 := ih (i + 1) (by omega)
    rw [← w_succ (i := i) (by omega)] at ih1
    refine EvP.step (fun k => by rw [shapesearchlaw03_CodecAnswers.l5]) (EvP.pos (by omega) (EvP.pos (by omega) (EvP.pos (by omega) ?_)))
    rw [rdL3_nat zs i hlt]
    refine EvP.bind (keep_Mod x5 20 h5.1 h5.2 (by omega) (by omega)) (fun t ht => EvP.bind1 (Ev.now _) ?_)
    exact ans_l6 x0 x37 zs[i] x4 x5 x39 x175 x176 x177 x192 x193 x194 zs (zs.length : Int) (i : Int) [x5, (x37.length : Int), wrap64 (t - 1)] hzi.1 hzi.2 (by simp) ih1 3 0 rfl
theorem ans_l4 (x0 x37 : List Int) (h0 : byt x0) (l0 : x0.length ≤ 300) (l37 : x37.length ≤ 300) (x4 x5 : Int) (h5 : -9223372036854775808 ≤ x5 ∧ x5 ≤ 9223372036854775807) (x175 : List (List Int)) (x176 x177 : Int) (ws : List Int) (lw : ws.length ≤ 1000)
    (next : EvP (fun k => shapesearchlaw03_CodecAnswers.l3 k x0 x4 x5 x175 x176 (wrap64 (x177 + 1))) (fun x => x = true)) :
    ∀ (d i : Nat), i + d = ws.length → EvP (fun k => shapesearchlaw03_CodecAnswers.l4 k x0 x4 x5 x37 x175 x176 x177 ws (ws.length : Int) (i : Int)) (fun x => x = true) := by
  intro d
  induction d with
  | zero =>
    intro i hi
    exact EvP.step (fun k => by rw [shapesearchlaw03_CodecAnswers.l4]) (EvP.neg (by omega) next)
  | succ d ih =>
    intro i hi
    have ih1 := ih (i + 1) (by omega)
    rw [← w_succ (i := i) (by omega)] at ih1
    obtain ⟨r, r1, r2, rb, rl⟩ := both_pack x37 l37 (rd ws (i : Int))
    have hc : byt (r.1 ++ [0]) := fun x hx => by
      rcases List.mem_append.1 hx with h | h
      · exact rb x h
      · have : x = 0 := by simpa using h
        omega
    have lc : (r.1 ++ [0]).length = r.1.length + 1 := by simp
    refine EvP.step (fun k => by rw [shapesearchlaw03_CodecAnswers.l4]) (EvP.pos (by omega) (EvP.pos (by omega) (EvP.pos (by omega) ?_)))
    refine EvP.bind1 r1 (EvP.bind1 r2 (EvP.pos rfl (EvP.pos rfl (EvP.pos (by omega) (EvP.bind1 (Ev.now _) ?_)))))
    refine ans_l5 x0 x37 x4 x5 (rd ws (i : Int)) h5 x175 x176 x177 ws (ws.length : Int) (i : Int) [x0, r.1, r.1 ++ [0]] (fun z hz => ?_) (by simp) ih1 3 0 rfl
    generalize r.1 ++ [0] = c at *
    simp only [List.mem_cons, List.not_mem_nil, or_false] at hz
    rcases hz with rfl | rfl | rfl
    · exact ⟨h0, by omega⟩
    · exact ⟨rb, by omega⟩
    · exact ⟨hc, by omega⟩
theorem ans_l3 (x0 : List Int) (h0 : byt x0) (l0 : x0.length ≤ 300) (x4 x5 : Int) (h4 : -9223372036854775808 ≤ x4 ∧ x4 ≤ 9223372036854775807) (h5 : -9223372036854775808 ≤ x5 ∧ x5 ≤ 9223372036854775807) (X : List (List Int)) (hX : ∀ z ∈ X, z.length ≤ 300 ∧ ∀ x ∈ z, -9223372036854775808 ≤ x ∧ x ≤ 9223372036854775807) (lX : X.length ≤ 1000) :
    ∀ (d i : Nat), i + d = X.length → EvP (fun k => shapesearchlaw03_CodecAnswers.l3 k x0 x4 x5 X (X.length : Int) (i : Int)) (fun x => x = true) := by
  intro d
  induction d with
  | zero =>
    intro i hi
    refine EvP.step (fun k => by rw [shapesearchlaw03_CodecAnswers.l3]) (EvP.neg (by omega) ?_)
    have es : codec_Sum.f x0 = some (crc x0) := rfl
    rw [es]
    exact EvP.bind1 (Ev.now _) (EvP.bind1 (refsum_is x0 h0 (by omega)) (EvP.pos rfl (EvP.bind1 awake_is (EvP.ret rfl))))
  | succ d ih =>
    intro i hi
    have hlt : i < X.length := by omega
    have hxi := hX _ (List.getElem_mem hlt)
    have ih1 := ih (i + 1) (by omega)
    rw [← w_succ (i := i) (by omega)] at ih1
    obtain ⟨r, r1, r2⟩ := both_width (xs := X[i]) (by omega) hxi.2
    refine EvP.step (fun k => by rw [shapesearchlaw03_CodecAnswers.l3]) (EvP.pos (by omega) (EvP.pos (by omega) (EvP.pos (by omega) ?_)))
    rw [rdL2_nat X i hlt]
    refine EvP.bind1 r1 (EvP.bind1 r2 (EvP.pos rfl (EvP.bind1 r2 (EvP.bind (keep_Mod x4 35 h4.1 h4.2 (by omega) (by omega)) (fun t ht => EvP.bind1 (Ev.now _) ?_)))))
    exact ans_l4 x0 X[i] h0 l0 hxi.1 x4 x5 h5 X (X.length : Int) (i : Int) [x4, r, wrap64 (t - 1)] (by simp) ih1 3 0 rfl
theorem ans_l2 (x0 : List Int) (h0 : byt x0) (l0 : x0.length ≤ 300) (x3 : List Int) (l3 : x3.length ≤ 300) (h3 : ∀ x ∈ x3, -9223372036854775808 ≤ x ∧ x ≤ 9223372036854775807) (x4 x5 : Int) (h4 : -9223372036854775808 ≤ x4 ∧ x4 ≤ 9223372036854775807) (h5 : -9223372036854775808 ≤ x5 ∧ x5 ≤ 9223372036854775807) (s : List Int) (d : Nat) :
    ∀ (xs : List Int) (c a : Int), c = d → Src s a → (∀ x ∈ xs, -9223372036854775808 ≤ x ∧ x ≤ 9223372036854775807) → xs.length + d ≤ 100 → EvP (fun k => shapesearchlaw03_CodecAnswers.l2 k x0 x3 x4 x5 xs c s a) (fun x => x = true) := by
  induction d with
  | zero =>
    intro xs c a hc hs hx hn
    refine EvP.step (fun k => by rw [shapesearchlaw03_CodecAnswers.l2]) (EvP.neg (by omega) (EvP.bind1 (Ev.now _) ?_))
    refine ans_l3 x0 h0 l0 x4 x5 h4 h5 [x3, xs] (fun z hz => ?_) (by simp) 2 0 rfl
    simp only [List.mem_cons, List.not_mem_nil, or_false] at hz
    rcases hz with rfl | rfl
    · exact ⟨l3, h3⟩
    · exact ⟨by omega, hx⟩
  | succ d ih =>
    intro xs c a hc hs hx hn
    refine EvP.step (fun k => by rw [shapesearchlaw03_CodecAnswers.l2]) (EvP.pos (by omega) (EvP.bind (keep_N s a 33 hs (by omega) (by omega)) (fun p hp => EvP.pos hp.2.1 ?_)))
    obtain ⟨e, ee⟩ := Int.eq_ofNat_of_zero_le hp.2.1
    have h33 : e ≤ 32 := by omega
    have p1 : (2 : Nat) ^ e ≤ 2 ^ 32 := Nat.pow_le_pow_right (by omega) h33
    have p0 : 0 < (2 : Nat) ^ e := Nat.pow_pos (by omega)
    have h32 : (2 : Nat) ^ 32 = 4294967296 := rfl
    rw [ee, shl_one h33, w64 (n := c - 1) (by omega) (by omega)]
    refine EvP.bind (keep_N s p.2 ((2 ^ e : Nat) : Int) hp.1 (by omega) (by omega)) (fun y hy => EvP.pos (by omega) ?_)
    refine ih _ _ _ (by omega) hy.1 (fun x hxx => ?_) (by rw [List.length_append, List.length_singleton]; omega)
    rcases List.mem_append.1 hxx with h | h
    · exact hx x h
    · have : x = y.1 := by simpa using h
      rw [this]
      omega
theorem ans_l1 (x0 : List Int) (h0 : byt x0) (l0 : x0.length ≤ 300) (x3 : List Int) (l3 : x3.length ≤ 300) (h3 : ∀ x ∈ x3, -9223372036854775808 ≤ x ∧ x ≤ 9223372036854775807) (x4 x5 : Int) (h4 : -9223372036854775808 ≤ x4 ∧ x4 ≤ 9223372036854775807) (h5 : -9223372036854775808 ≤ x5 ∧ x5 ≤ 9223372036854775807) (s : List Int) (a : Int) (hs : Src s a) (ps : List Int) (lp : ps.length ≤ 1000) :
    ∀ (d i : Nat), i + d = ps.length → EvP (fun k => shapesearchlaw03_CodecAnswers.l1 k x0 x3 x4 x5 ps (ps.length : Int) (i : Int) s a) (fun x => x = true) := by
  intro d
  induction d with
  | zero =>
    intro i hi
    refine EvP.step (fun k => by rw [shapesearchlaw03_CodecAnswers.l1]) (EvP.neg (by omega) (EvP.bind (keep_N s a 20 hs (by omega) (by omega)) (fun c hc => ?_)))
    exact ans_l2 x0 h0 l0 x3 l3 h3 x4 x5 h4 h5 s c.1.toNat [] c.1 c.2 (by omega) hc.1 (fun x h => by cases h) (by rw [List.length_nil]; omega)
  | succ d ih =>
    intro i hi
    have ih1 := ih (i + 1) (by omega)
    obtain ⟨r, r1, r2⟩ := both_int x0 h0 (by omega) (rd ps (i : Int))
    refine EvP.step (fun k => by rw [shapesearchlaw03_CodecAnswers.l1]) (EvP.pos (by omega) (EvP.pos (by omega) (EvP.pos (by omega) ?_)))
    rw [w_succ (by omega)]
    exact EvP.bind1 r1 (EvP.bind1 r2 (EvP.pos rfl (EvP.pos rfl (EvP.pos rfl ih1))))
theorem ans_l0 (x0 : List Int) (h0 : byt x0) (l0 : x0.length ≤ 300) (x1 : Int) (h1 : -9223372036854775808 ≤ x1 ∧ x1 ≤ 9223372036854775807) (x3 : List Int) (l3 : x3.length ≤ 300) (h3 : ∀ x ∈ x3, -9223372036854775808 ≤ x ∧ x ≤ 9223372036854775807) (x4 x5 : Int) (h4 : -9223372036854775808 ≤ x4 ∧ x4 ≤ 9223372036854775807) (h5 : -9223372036854775808 ≤ x5 ∧ x5 ≤ 9223372036854775807) (s : List Int) (ps : List Int) (lp : ps.length ≤ 1000) (hp : ∀ x ∈ ps, -9223372036854775808 ≤ x ∧ x ≤ 9223372036854775807) :
    ∀ (d i : Nat) (a : Int), i + d = ps.length → Src s a → EvP (fun k => shapesearchlaw03_CodecAnswers.l0 k x0 x1 x3 x4 x5 ps (ps.length : Int) (i : Int) s a) (fun x => x = true) := by
  intro d
  induction d with
  | zero =>
    intro i a hi hs
    refine EvP.step (fun k => by rw [shapesearchlaw03_CodecAnswers.l0]) (EvP.neg (by omega) ?_)
    rw [w64 (n := (x0.length : Int) + 2) (by omega) (by omega)]
    refine EvP.bind (keep_Mod x1 ((x0.length : Int) + 2) h1.1 h1.2 (by omega) (by omega)) (fun t ht => EvP.bind1 (Ev.now _) ?_)
    exact ans_l1 x0 h0 l0 x3 l3 h3 x4 x5 h4 h5 s a hs [x1, 0, (x0.length : Int), t] (by simp) 4 0 rfl
  | succ d ih =>
    intro i a hi hs
    have hlt : i < ps.length := by omega
    have hpi := hp _ (List.getElem_mem hlt)
    refine EvP.step (fun k => by rw [shapesearchlaw03_CodecAnswers.l0]) (EvP.pos (by omega) (EvP.pos (by omega) (EvP.pos (by omega) ?_)))
    rw [rd_nat ps i hlt, w_succ (by omega)]
    generalize ps[i] = x at *
    have hten := encN_ten (foldN_lt hpi.1 hpi.2)
    have hcb : bts (x0 ++ encN (foldN x)) := fun y hy => by
      rcases List.mem_append.1 hy with h | h
      · exact h0 y h
      · exact encN_bts _ _ (Nat.lt_succ_self _) y h
    have hcl : (x0 ++ encN (foldN x)).length ≤ 310 := by rw [List.length_append]; omega
    refine EvP.bind1 (refput_is hpi.1 hpi.2 x0 (by omega)) ?_
    have hput := put_is hpi.1 hpi.2 x0 (by omega)
    generalize x0 ++ encN (foldN x) = c at *
    refine EvP.bind (keep_Bytes s a c hs hcb (by omega)) (fun b hb => ?_)
    obtain ⟨r, r1, r2⟩ := both_int b.1 hb.2.1 (by omega) (x0.length : Int)
    exact EvP.bind1 r1 (EvP.bind1 r2 (EvP.bind1 hput (EvP.pos rfl (EvP.pos rfl (EvP.pos rfl (EvP.pos rfl (ih (i + 1) b.2 (by omega) hb.1)))))))
theorem CodecAnswers : shapesearchlaw03_CodecAnswers.Pure := by
  intro l0 a1 a2 l3 a4 a5 l6 h0 y0 v0 w1 w2 h3 y3 v3 w4 w5 h6 y6 v6
  have b1 := b_i64 w1
  have b2 := b_i64 w2
  have b4 := b_i64 w4
  have b5 := b_i64 w5
  refine EvP.rounds ?_
  have yes : EvP (fun k => (shapesearchlaw03_awake.f k).bind fun t => some t) (fun x => x = true) := EvP.bind1 awake_is (EvP.ret rfl)
  unfold shapesearchlaw03_CodecAnswers.f
  refine EvP.ite (fun _ => yes) (fun c0 => EvP.ite (fun _ => yes) (fun c3 => ?_))
  refine EvP.bind (keep_New l6 v6 h6) (fun s hs => EvP.bind (keep_Raw s.1 s.2 hs) (fun w hw => EvP.bind1 (Ev.now _) ?_))
  refine ans_l0 l0 (fun x hx => b_u8 (v0 x hx)) (by omega) a1 b1 l3 (by omega) (fun x hx => b_i64 (v3 x hx)) a4 a5 b4 b5 s.1 [a2, w.1, -9223372036854775808, 9223372036854775807] (by simp) (fun x hx => ?_) 4 0 w.2 rfl hw.1
  simp only [List.mem_cons, List.not_mem_nil, or_false] at hx
  omega

end Go.Proofs.Ytemeojkmchgkjaa.Pure
