/- This file proves that the packets and the readings of both sides are the same, whatever comes in. -/
import Derived.Test.YtgmiilolikbekaaPPacketAnswersx9
import Derived.Test.YtgmiilolikbekaaBase
import Derived.Test.YtgmiilolikbekaaMathCrc
set_option linter.unusedVariables false
namespace Go.Proofs.Ytgmiilolikbekaa.Pure
open Go.RowKit Go.Proofs.Ytgmiilolikbekaa.PPacketAnswers Go.Proofs.YtgmiilolikbekaaW.PrintWords Go.Proofs.YtgmiilolikbekaaW.PrintLast Go.Proofs.YtgmiilolikbekaaW.PrintMore Go.Proofs.Ytgmiilolikbekaa.Base Go.Proofs.Ytgmiilolikbekaa.X
/-! ### the checksum: each step can be taken back -/
def stepN (x c : Nat) : Nat := (crcT (x % 256 ^^^ c)).toNat ^^^ (x / 256)
theorem byte_xor {a b : Nat} (ha : a < 256) (hb : b < 256) : a ^^^ b < 256 := by
  have := Nat.xor_lt_two_pow (n := 8) ha hb
  exact this
theorem word_xor {a b : Nat} (ha : a < 4294967296) (hb : b < 4294967296) : a ^^^ b < 4294967296 := by
  have := Nat.xor_lt_two_pow (n := 32) ha hb
  exact this
theorem stepN_lt {x c : Nat} (hx : x < 4294967296) (hc : c < 256) : stepN x c < 4294967296 := by
  have hi := byte_xor (a := x % 256) (b := c) (by omega) hc
  obtain ⟨h1, h2, _⟩ := crcT_back _ hi
  exact word_xor (by omega) (by omega)
theorem step_is {x c : Nat} (hx : x < 4294967296) (hc : c < 256) : Go.bits .xor .u32 (crcT (Go.bits .xor .u8 ((x : Int) % 256) (c : Int)).toNat) ((x : Int) / 256) = (stepN x c : Int) := by
  have hi := byte_xor (a := x % 256) (b := c) (by omega) hc
  obtain ⟨h1, h2, _⟩ := crcT_back _ hi
  have e1 : ((x : Int) % 256) = ((x % 256 : Nat) : Int) := by omega
  have e2 : ((x : Int) / 256) = ((x / 256 : Nat) : Int) := by omega
  rw [e1, e2, xor_u8 _ _ (by omega) hc, Int.toNat_natCast]
  have e3 : crcT (x % 256 ^^^ c) = ((crcT (x % 256 ^^^ c)).toNat : Int) := (Int.toNat_of_nonneg h1).symm
  rw [e3, xor_u32 _ _ (by omega) (by omega)]
  rfl
def Bts (l : List Int) : Prop := ∀ x ∈ l, 0 ≤ x ∧ x ≤ 255
/-! ### the law's own checksum: bit by bit -/
def stepB (y : Nat) : Nat := if y % 2 = 1 then y / 2 ^^^ 3988292384 else y / 2
def iterB : Nat → Nat → Nat
  | 0, y => y
  | n + 1, y => iterB n (stepB y)
theorem stepB_lt {y : Nat} (h : y < 4294967296) : stepB y < 4294967296 := by
  unfold stepB
  split
  · exact word_xor (by omega) (by omega)
  · omega
theorem and_one32 {a : Nat} (h : a < 4294967296) : Go.bits .and .u32 (a : Int) 1 = ((a % 2 : Nat) : Int) := by
  have e2 : BitVec.ofInt 32 (a : Int) = BitVec.ofNat 32 a := BitVec.ofInt_natCast 32 a
  have e : BitVec.ofInt 32 1 = 1#32 := by decide
  show IntKind.u32.wrap ((BitVec.ofInt 32 (a : Int) &&& BitVec.ofInt 32 1).toNat : Int) = _
  have k : (2 : Nat) ^ 32 = 4294967296 := rfl
  rw [e, e2, BitVec.toNat_and, BitVec.toNat_ofNat]
  have e3 : (1#32).toNat = 1 := rfl
  rw [e3, Nat.and_one_is_mod, k, Nat.mod_eq_of_lt h]
  have k2 : (2 : Int) ^ IntKind.u32.bits = 4294967296 := rfl
  exact wr_u32 _ (by omega) (by rw [k2]; omega)
theorem crcStep_is {y : Nat} (h : y < 4294967296) : crcStep (y : Int) = (stepB y : Int) := by
  unfold crcStep stepB
  rw [and_one32 h]
  have e : (y : Int) / 2 = ((y / 2 : Nat) : Int) := by omega
  by_cases c : y % 2 = 1
  · rw [if_pos c, if_pos (by omega), e]
    exact xor_u32 _ 3988292384 (by omega) (by decide)
  · rw [if_neg c, if_neg (by omega), e]
theorem crcIter_is : ∀ (n y : Nat), y < 4294967296 → crcIter n (y : Int) = (iterB n y : Int)
  | 0, _, _ => rfl
  | n + 1, y, h => by
    show crcIter n (crcStep (y : Int)) = _
    rw [crcStep_is h]
    exact crcIter_is n (stepB y) (stepB_lt h)
theorem iterB_lt : ∀ (n y : Nat), y < 4294967296 → iterB n y < 4294967296
  | 0, _, h => h
  | n + 1, y, h => iterB_lt n (stepB y) (stepB_lt h)
theorem stepB_lin (z w : Nat) : stepB (z ^^^ 2 * w) = stepB z ^^^ w := by
  have e1 : (z ^^^ 2 * w) % 2 = z % 2 := by
    have h := Nat.xor_mod_two_pow (a := z) (b := 2 * w) (n := 1)
    rw [Nat.pow_one, Nat.mul_mod_right, Nat.xor_zero] at h
    exact h
  have e2 : (z ^^^ 2 * w) / 2 = z / 2 ^^^ w := by
    have h := Nat.shiftRight_xor_distrib (a := z) (b := 2 * w) (i := 1)
    rw [Nat.shiftRight_eq_div_pow, Nat.shiftRight_eq_div_pow, Nat.shiftRight_eq_div_pow, Nat.pow_one, Nat.mul_div_cancel_left _ (by decide)] at h
    exact h
  unfold stepB
  rw [e1, e2]
  split
  · rw [Nat.xor_assoc, Nat.xor_comm w, Nat.xor_assoc]
  · rfl
theorem iterB_lin : ∀ (n z h : Nat), iterB n (z ^^^ 2 ^ n * h) = iterB n z ^^^ h
  | 0, z, h => by simp [iterB]
  | n + 1, z, h => by
    show iterB n (stepB (z ^^^ 2 ^ (n + 1) * h)) = iterB n (stepB z) ^^^ h
    have e : 2 ^ (n + 1) * h = 2 * (2 ^ n * h) := by rw [Nat.pow_succ, Nat.mul_comm (2 ^ n) 2, Nat.mul_assoc]
    rw [e, stepB_lin]
    exact iterB_lin n (stepB z) h
theorem split_byte (x : Nat) : x = (x % 256) ^^^ (256 * (x / 256)) := by
  apply Nat.eq_of_testBit_eq
  intro i
  rw [Nat.testBit_xor]
  have e1 := Nat.testBit_mod_two_pow (x := x) (j := 8) (i := i)
  have e2 := Nat.testBit_two_pow_mul (i := 8) (a := x / 256) (j := i)
  have e3 : (x / 2 ^ 8).testBit (i - 8) = x.testBit (i - 8 + 8) := Nat.testBit_div_two_pow x (i - 8)
  have k : (2 : Nat) ^ 8 = 256 := rfl
  rw [k] at e1 e2 e3
  rw [e1, e2, e3]
  by_cases h : i < 8
  · have h' : ¬ i ≥ 8 := by omega
    simp [h, h']
  · have h' : i ≥ 8 := by omega
    have e4 : i - 8 + 8 = i := by omega
    have e5 : 8 + (i - 8) = i := by omega
    simp [h, h', e4]
theorem step8 {x c : Nat} (hx : x < 4294967296) (hc : c < 256) : iterB 8 (x ^^^ c) = stepN x c := by
  have hi := byte_xor (a := x % 256) (b := c) (by omega) hc
  have e : x ^^^ c = (x % 256 ^^^ c) ^^^ 2 ^ 8 * (x / 256) := by
    conv => lhs; rw [split_byte x]
    rw [Nat.xor_assoc, Nat.xor_comm (256 * (x / 256)) c, ← Nat.xor_assoc]
  rw [e, iterB_lin]
  unfold stepN crcT
  rw [crcIter_is 8 _ (by omega), Int.toNat_natCast]
theorem refsum_is (l : List Int) (hb : Bts l) (hl : l.length ≤ 1000000) : Ev (fun k => shapesearchref03_Sum.f k l) (crc l) := by
  have key : ∀ (d i : Nat), i + d = l.length → ∀ x : Nat, x < 4294967296 → Ev (fun k => shapesearchref03_Sum.l0 k l (x : Int) (l.length : Int) (i : Int)) (Go.bits .xor .u32 4294967295 (crcFrom (x : Int) (l.drop i))) := by
    intro d
    induction d with
    | zero =>
      intro i hi x hx
      refine Ev.step (fun k => by rw [shapesearchref03_Sum.l0]) (Ev.neg (by omega) ?_)
      rw [show l.drop i = [] from List.drop_eq_nil_of_le (by omega)]
      exact Ev.now _
    | succ d ih =>
      intro i hi x hx
      have hlt : i < l.length := by omega
      have hc := hb _ (List.getElem_mem hlt)
      refine Ev.step (fun k => by rw [shapesearchref03_Sum.l0]) (Ev.pos (by omega) (Ev.pos (by omega) (Ev.pos (by omega) ?_)))
      rw [rd_nat l i hlt, List.drop_eq_getElem_cons hlt]
      generalize l[i] = c' at *
      obtain ⟨c, rfl⟩ := Int.eq_ofNat_of_zero_le hc.1
      have hc8 : c < 256 := by omega
      have e1 : Go.bits .xor .u32 (x : Int) ((c : Int) % 4294967296) = ((x ^^^ c : Nat) : Int) := by
        rw [show (c : Int) % 4294967296 = (c : Int) by omega]
        exact xor_u32 x c hx (by omega)
      have e2 : crcFrom (x : Int) ((c : Int) :: l.drop (i + 1)) = crcFrom (stepN x c : Int) (l.drop (i + 1)) := by
        show crcFrom (Go.bits .xor .u32 (crcT (Go.bits .xor .u8 ((x : Int) % 256) (c : Int)).toNat) ((x : Int) / 256)) _ = _
        rw [step_is hx hc8]
      rw [e1, e2]
      have goal := ih (i + 1) (by omega) (stepN x c) (stepN_lt hx hc8)
      rw [← step8 hx hc8] at goal ⊢
      have hy := word_xor (a := x) (b := c) hx (by omega)
      generalize x ^^^ c = y at *
      have inner : ∀ (e j : Nat), j + e = 8 → ∀ y : Nat, y < 4294967296 → ∀ R : Int, Ev (fun k => shapesearchref03_Sum.l0 k l (iterB e y : Int) (l.length : Int) ((i + 1 : Nat) : Int)) R → Ev (fun k => shapesearchref03_Sum.l1 k l (y : Int) (j : Int) (l.length : Int) (i : Int)) R := by
        intro e
        induction e with
        | zero =>
          intro j hj y hy R hR
          refine Ev.step (fun k => by rw [shapesearchref03_Sum.l1]) (Ev.neg (by omega) ?_)
          rw [w_succ (by omega)]
          exact hR
        | succ e ih2 =>
          intro j hj y hy R hR
          have hj1 : j + 1 + e = 8 := by omega
          refine Ev.step (fun k => by rw [shapesearchref03_Sum.l1]) (Ev.pos (by omega) ?_)
          rw [w_succ (by omega), and_one32 hy]
          have hR2 := ih2 (j + 1) hj1 (stepB y) (stepB_lt hy) R hR
          have es := crcStep_is hy
          unfold crcStep at es
          rw [and_one32 hy] at es
          by_cases c1 : ((y % 2 : Nat) : Int) = 1
          · rw [if_pos c1] at es
            rw [← es] at hR2
            exact Ev.pos c1 hR2
          · rw [if_neg c1] at es
            rw [← es] at hR2
            exact Ev.neg c1 hR2
      exact inner 8 0 rfl y hy _ goal
  exact key l.length 0 (by omega) 4294967295 (by decide)
/-! ### numbers as bytes -/
def foldN (n : Int) : Nat := if 0 ≤ n then (2 * n).toNat else (-2 * n - 1).toNat
theorem wu64 (n : Int) : IntKind.u64.wrap n = n % 18446744073709551616 := by
  have e : (2 : Int) ^ IntKind.u64.bits = 18446744073709551616 := rfl
  simp [IntKind.wrap, IntKind.bits, IntKind.signed]
theorem xor_ones (a : Nat) (h : a < 18446744073709551616) : Go.bits .xor .u64 (a : Int) 18446744073709551615 = ((18446744073709551615 - a : Nat) : Int) := by
  have e : BitVec.ofInt 64 18446744073709551615 = BitVec.allOnes 64 := by decide
  have e2 : BitVec.ofInt 64 (a : Int) = BitVec.ofNat 64 a := BitVec.ofInt_natCast 64 a
  show IntKind.u64.wrap ((BitVec.ofInt 64 (a : Int) ^^^ BitVec.ofInt 64 18446744073709551615).toNat : Int) = _
  rw [e, e2, BitVec.xor_allOnes, BitVec.toNat_not, BitVec.toNat_ofNat, wu64]
  have : (2 : Nat) ^ 64 = 18446744073709551616 := rfl
  omega
theorem xor_zero64 (a : Nat) (h : a < 18446744073709551616) : Go.bits .xor .u64 (a : Int) 0 = (a : Int) := by
  have e2 : BitVec.ofInt 64 (a : Int) = BitVec.ofNat 64 a := BitVec.ofInt_natCast 64 a
  have e : BitVec.ofInt 64 0 = 0#64 := by decide
  show IntKind.u64.wrap ((BitVec.ofInt 64 (a : Int) ^^^ BitVec.ofInt 64 0).toNat : Int) = _
  rw [e, e2, BitVec.xor_zero, BitVec.toNat_ofNat, wu64]
  have : (2 : Nat) ^ 64 = 18446744073709551616 := rfl
  omega
theorem foldN_lt {n : Int} (h1 : -9223372036854775808 ≤ n) (h2 : n ≤ 9223372036854775807) : foldN n < 18446744073709551616 := by unfold foldN; split <;> omega
theorem fold_is {n : Int} (h1 : -9223372036854775808 ≤ n) (h2 : n ≤ 9223372036854775807) : Go.bits .xor .u64 (IntKind.u64.wrap ((IntKind.u64.wrap n) * 2)) (IntKind.u64.wrap (n / 9223372036854775808)) = (foldN n : Int) := by
  rw [wu64, wu64, wu64]
  by_cases h : 0 ≤ n
  · have e1 : n % 18446744073709551616 * 2 % 18446744073709551616 = ((2 * n).toNat : Int) := by omega
    have e2 : n / 9223372036854775808 % 18446744073709551616 = 0 := by omega
    rw [e1, e2, xor_zero64 _ (by omega)]
    unfold foldN
    rw [if_pos h]
  · have e1 : n % 18446744073709551616 * 2 % 18446744073709551616 = ((2 * n + 18446744073709551616).toNat : Int) := by omega
    have e2 : n / 9223372036854775808 % 18446744073709551616 = 18446744073709551615 := by omega
    rw [e1, e2, xor_ones _ (by omega)]
    unfold foldN
    rw [if_neg h]
    omega
def encN (u : Nat) : List Int := if h : u < 128 then [(u : Int)] else ((u % 128 + 128 : Nat) : Int) :: encN (u / 128)
termination_by u
decreasing_by omega
theorem encN_short {u : Nat} (h : u < 128) : encN u = [(u : Int)] := by rw [encN, dif_pos h]
theorem encN_long {u : Nat} (h : ¬ u < 128) : encN u = ((u % 128 + 128 : Nat) : Int) :: encN (u / 128) := by rw [encN, dif_neg h]
theorem encN_pos (u : Nat) : 1 ≤ (encN u).length := by
  by_cases h : u < 128
  · rw [encN_short h]
    exact Nat.le_refl _
  · rw [encN_long h]
    simp
theorem encN_len : ∀ (k u : Nat), u < 128 ^ (k + 1) → (encN u).length ≤ k + 1
  | 0, u, h => by rw [encN_short (by simpa using h)]; exact Nat.le_refl _
  | k + 1, u, h => by
    by_cases hu : u < 128
    · rw [encN_short hu]
      simp
    · rw [encN_long hu]
      have := encN_len k (u / 128) (by rw [Nat.pow_succ] at h; exact Nat.div_lt_of_lt_mul (by rw [Nat.mul_comm]; exact h))
      simpa using this
theorem encN_ten {u : Nat} (h : u < 18446744073709551616) : (encN u).length ≤ 10 := encN_len 9 u (Nat.lt_of_lt_of_le h (by decide))
theorem or_high : ∀ i < 256, Go.bits .or .u8 ((i : Nat) : Int) 128 = ((i % 128 + 128 : Nat) : Int) := by decide +kernel
theorem put_loop : ∀ (k u : Nat), u < k → ∀ (out : List Int), out.length + (encN u).length ≤ 140737488355328 → Ev (fun n => codec_PutInt.l0 n (u : Int) out) (out ++ encN u)
  | 0, u, h, _, _ => absurd h (Nat.not_lt_zero _)
  | k + 1, u, h, out, hb => by
    have hp := encN_pos u
    refine Ev.step (fun n => by rw [codec_PutInt.l0]) ?_
    by_cases hu : u < 128
    · refine Ev.neg (by omega) (Ev.pos (by omega) ?_)
      rw [encN_short hu]
      have e : (u : Int) % 256 = u := by omega
      rw [e]
      exact Ev.now _
    · rw [encN_long hu] at hb ⊢
      have hp' := encN_pos (u / 128)
      rw [List.length_cons] at hb
      refine Ev.pos (by omega) (Ev.pos (by omega) ?_)
      have e1 : (u : Int) / 128 = ((u / 128 : Nat) : Int) := by omega
      have e2 : (u : Int) % 256 = ((u % 256 : Nat) : Int) := by omega
      have e3 : u % 256 % 128 = u % 128 := by omega
      rw [e1, e2, or_high _ (by omega), e3]
      have := put_loop k (u / 128) (by omega) (out ++ [((u % 128 + 128 : Nat) : Int)]) (by rw [List.length_append, List.length_singleton]; omega)
      rw [List.append_assoc] at this
      exact this
theorem put_is {n : Int} (h1 : -9223372036854775808 ≤ n) (h2 : n ≤ 9223372036854775807) (l : List Int) (hl : l.length ≤ 1000000) : Ev (fun k => codec_PutInt.f k l n) (l ++ encN (foldN n)) := by
  have h3 := encN_ten (foldN_lt h1 h2)
  unfold codec_PutInt.f
  refine Ev.pos (by simp; omega) ?_
  rw [fold_is h1 h2, List.nil_append]
  exact put_loop _ _ (Nat.lt_succ_self _) l (by omega)
/-! ### bytes as numbers -/
theorem wi64 (n : Int) : IntKind.i64.wrap n = wrap64 n := by
  have e : (2 : Int) ^ IntKind.i64.bits = 18446744073709551616 := rfl
  simp [IntKind.wrap, IntKind.bits, IntKind.signed, wrap64] <;> omega
theorem xor_i64_ones {a : Nat} (h : a < 9223372036854775808) : Go.bits .xor .i64 (a : Int) (-1) = -(a : Int) - 1 := by
  have e : BitVec.ofInt 64 (-1) = BitVec.allOnes 64 := by decide
  have e2 : BitVec.ofInt 64 (a : Int) = BitVec.ofNat 64 a := BitVec.ofInt_natCast 64 a
  show IntKind.i64.wrap ((BitVec.ofInt 64 (a : Int) ^^^ BitVec.ofInt 64 (-1)).toNat : Int) = _
  rw [e, e2, BitVec.xor_allOnes, BitVec.toNat_not, BitVec.toNat_ofNat, wi64]
  have : (2 : Nat) ^ 64 = 18446744073709551616 := rfl
  unfold wrap64
  omega
theorem xor_i64_zero {a : Nat} (h : a < 9223372036854775808) : Go.bits .xor .i64 (a : Int) 0 = (a : Int) := by
  have e2 : BitVec.ofInt 64 (a : Int) = BitVec.ofNat 64 a := BitVec.ofInt_natCast 64 a
  have e : BitVec.ofInt 64 0 = 0#64 := by decide
  show IntKind.i64.wrap ((BitVec.ofInt 64 (a : Int) ^^^ BitVec.ofInt 64 0).toNat : Int) = _
  rw [e, e2, BitVec.xor_zero, BitVec.toNat_ofNat, wi64]
  have : (2 : Nat) ^ 64 = 18446744073709551616 := rfl
  unfold wrap64
  omega
theorem and_one {a : Nat} (h : a < 18446744073709551616) : Go.bits .and .u64 (a : Int) 1 = ((a % 2 : Nat) : Int) := by
  have e2 : BitVec.ofInt 64 (a : Int) = BitVec.ofNat 64 a := BitVec.ofInt_natCast 64 a
  have e : BitVec.ofInt 64 1 = 1#64 := by decide
  show IntKind.u64.wrap ((BitVec.ofInt 64 (a : Int) &&& BitVec.ofInt 64 1).toNat : Int) = _
  have k : (2 : Nat) ^ 64 = 18446744073709551616 := rfl
  rw [e, e2, BitVec.toNat_and, BitVec.toNat_ofNat, wu64]
  have e3 : (1#64).toNat = 1 := rfl
  rw [e3, Nat.and_one_is_mod, k, Nat.mod_eq_of_lt h]
  omega
theorem or_add {u x j : Nat} (hu : u < 2 ^ j) (h : u + x * 2 ^ j < 18446744073709551616) : Go.bits .or .u64 (u : Int) ((x * 2 ^ j : Nat) : Int) = ((u + x * 2 ^ j : Nat) : Int) := by
  have e2 : ∀ a : Nat, BitVec.ofInt 64 (a : Int) = BitVec.ofNat 64 a := fun a => BitVec.ofInt_natCast 64 a
  show IntKind.u64.wrap ((BitVec.ofInt 64 (u : Int) ||| BitVec.ofInt 64 ((x * 2 ^ j : Nat) : Int)).toNat : Int) = _
  have k : (2 : Nat) ^ 64 = 18446744073709551616 := rfl
  have e3 := Nat.two_pow_add_eq_or_of_lt hu x
  rw [Nat.mul_comm (2 ^ j) x, Nat.or_comm] at e3
  rw [e2, e2, BitVec.toNat_or, BitVec.toNat_ofNat, BitVec.toNat_ofNat, wu64, k, Nat.mod_eq_of_lt (show u < 18446744073709551616 by omega), Nat.mod_eq_of_lt (show x * 2 ^ j < 18446744073709551616 by omega), ← e3]
  omega
theorem and_low : ∀ i < 256, Go.bits .and .u8 ((i : Nat) : Int) 127 = ((i % 128 : Nat) : Int) := by decide +kernel
theorem unfold_is {n : Int} (h1 : -9223372036854775808 ≤ n) (h2 : n ≤ 9223372036854775807) : Go.bits .xor .i64 (wrap64 ((foldN n : Int) / 2)) (wrap64 (-(wrap64 (Go.bits .and .u64 (foldN n : Int) 1)))) = n := by
  have h3 := foldN_lt h1 h2
  rw [and_one h3]
  by_cases h : 0 ≤ n
  · have e : foldN n = (2 * n).toNat := if_pos h
    have e1 : (foldN n : Int) / 2 = (n.toNat : Int) := by omega
    have e2 : foldN n % 2 = 0 := by omega
    rw [e1, e2, w64 (by omega) (by omega)]
    have := xor_i64_zero (a := n.toNat) (by omega)
    have e3 : wrap64 (-(wrap64 ((0 : Nat) : Int))) = 0 := by unfold wrap64; omega
    rw [e3, this]
    omega
  · have e : foldN n = (-2 * n - 1).toNat := if_neg h
    have e1 : (foldN n : Int) / 2 = ((-n - 1).toNat : Int) := by omega
    have e2 : foldN n % 2 = 1 := by omega
    rw [e1, e2, w64 (by omega) (by omega)]
    have := xor_i64_ones (a := (-n - 1).toNat) (by omega)
    have e3 : wrap64 (-(wrap64 ((1 : Nat) : Int))) = -1 := by unfold wrap64; omega
    rw [e3, this]
    omega
theorem rd_mid (pre post : List Int) (x : Int) : rd (pre ++ x :: post) (pre.length : Int) = x := by
  rw [rd_nat _ _ (by simp)]
  simp
/-- One byte's part of a number. -/
theorem part_is {x u j v : Nat} (hx : x % 128 ≤ v) (hx8 : x < 256) (hu : u < 2 ^ (7 * j)) (hj : j ≤ 9) (h : u + v * 2 ^ (7 * j) < 18446744073709551616) :
    Go.bits .or .u64 (u : Int) (shl .u64 (IntKind.u64.wrap (Go.bits .and .u8 (x : Int) 127)) (wrap64 (7 * (j : Int)))) = ((u + x % 128 * 2 ^ (7 * j) : Nat) : Int) := by
  have hm : x % 128 * 2 ^ (7 * j) ≤ v * 2 ^ (7 * j) := Nat.mul_le_mul_right _ hx
  have e1 : wrap64 (7 * (j : Int)) = ((7 * j : Nat) : Int) := by rw [w64 (by omega) (by omega)]; omega
  have e2 : IntKind.u64.wrap ((x % 128 : Nat) : Int) = ((x % 128 : Nat) : Int) := by rw [wu64]; omega
  rw [and_low _ hx8, e1, e2]
  unfold shl
  have e3 : min ((7 * j : Nat) : Int).toNat IntKind.u64.bits = 7 * j := by
    have : IntKind.u64.bits = 64 := rfl
    rw [this]
    omega
  rw [e3, wu64]
  have e4 : ((x % 128 : Nat) : Int) * 2 ^ (7 * j) = ((x % 128 * 2 ^ (7 * j) : Nat) : Int) := by push_cast; rfl
  rw [e4]
  have e5 : ((x % 128 * 2 ^ (7 * j) : Nat) : Int) % 18446744073709551616 = ((x % 128 * 2 ^ (7 * j) : Nat) : Int) := by
    generalize x % 128 * 2 ^ (7 * j) = q at *
    omega
  rw [e5]
  exact or_add hu (by omega)
theorem nine {j v : Nat} (hv : 1 ≤ v) (h : v * 2 ^ (7 * j) < 18446744073709551616) : j ≤ 9 := by
  rcases Nat.lt_or_ge 9 j with hj | hj
  · have h1 : (2 : Nat) ^ 70 ≤ 2 ^ (7 * j) := Nat.pow_le_pow_right (by decide) (by omega)
    have h2 : 2 ^ (7 * j) ≤ v * 2 ^ (7 * j) := Nat.le_mul_of_pos_left _ hv
    have h3 : (2 : Nat) ^ 70 = 1180591620717411303424 := by decide
    omega
  · exact hj
theorem w_addn {a b c : Nat} (h : c = a + b) (hc : c ≤ 1000) : wrap64 ((a : Int) + (b : Int)) = (c : Int) := by rw [w64 (by omega) (by omega)]; omega
theorem w_sevn {j : Nat} (h : j ≤ 9) : wrap64 (7 * (j : Int)) = ((7 * j : Nat) : Int) := by rw [w64 (by omega) (by omega)]; omega
theorem mod_part (v : Nat) : (v % 128 + 128) % 128 ≤ v := by omega
theorem byte_part (v : Nat) : v % 128 + 128 < 256 := by omega
theorem encN_ne (u : Nat) : encN u ≠ [] := fun h => by
  have := encN_pos u
  rw [h] at this
  exact absurd this (by decide)
/-! ### what is read was written so -/
theorem fold_surj (w : Nat) (h : w < 18446744073709551616) : ∃ n : Int, -9223372036854775808 ≤ n ∧ n ≤ 9223372036854775807 ∧ foldN n = w := by
  by_cases e : w % 2 = 0
  · exact ⟨((w / 2 : Nat) : Int), by omega, by omega, by unfold foldN; rw [if_pos (by omega)]; omega⟩
  · exact ⟨-((w / 2 : Nat) : Int) - 1, by omega, by omega, by unfold foldN; rw [if_neg (by omega)]; omega⟩
theorem pow_eight {j : Nat} (h : j ≤ 8) : (2 : Nat) ^ (7 * j) ≤ 72057594037927936 := by
  have : (2 : Nat) ^ (7 * j) ≤ 2 ^ 56 := Nat.pow_le_pow_right (by decide) (by omega)
  exact this
theorem pow_seven (j : Nat) : (2 : Nat) ^ (7 * (j + 1)) = 128 * 2 ^ (7 * j) := by rw [show 7 * (j + 1) = 7 + 7 * j by omega, Nat.pow_add]
/-! ### readings as bytes -/
def Vrd (r : S25) : Prop := 0 ≤ r.f0 ∧ r.f0 ≤ 1099511627776 ∧ -1000 ≤ r.f1 ∧ r.f1 ≤ 1000
def sealB (b : List Int) : List Int := b ++ [(X.crc b) % 256, (X.crc b / 256) % 256, (X.crc b / 65536) % 256, (X.crc b / 16777216) % 256]
def encR : Int → Int → List S25 → List Int
  | _, _, [] => []
  | p, q, r :: l => encN (foldN (r.f0 - p)) ++ encN (foldN (r.f1 - q)) ++ encR r.f0 r.f1 l
theorem rdT_nat (l : List S25) (i : Nat) (h : i < l.length) : rd_T25 l (i : Int) = l[i] := by
  unfold rd_T25
  rw [Int.toNat_natCast, List.getD_eq_getElem?_getD, List.getElem?_eq_getElem h]
  rfl
theorem valid_is {r : S25} (h : Vrd r) : packet_valid.f r.f0 r.f1 = some true := by
  obtain ⟨h1, h2, h3, h4⟩ := h
  unfold packet_valid.f
  rw [if_pos h1, if_pos h2, if_pos h3, decide_eq_true h4]
theorem encR_len : ∀ (l : List S25), (∀ r ∈ l, Vrd r) → ∀ p q : Int, 0 ≤ p → p ≤ 1099511627776 → -1000 ≤ q → q ≤ 1000 → (encR p q l).length ≤ 20 * l.length
  | [], _, _, _, _, _, _, _ => by simp [encR]
  | r :: l, h, p, q, p0, p1, q0, q1 => by
    obtain ⟨h1, h2, h3, h4⟩ := h r (by simp)
    have ih := encR_len l (fun s hs => h s (by simp [hs])) r.f0 r.f1 h1 h2 h3 h4
    have a := encN_ten (foldN_lt (n := r.f0 - p) (by omega) (by omega))
    have b := encN_ten (foldN_lt (n := r.f1 - q) (by omega) (by omega))
    simp only [encR, List.length_append, List.length_cons]
    omega
theorem Encode_l0 (x4 : List Int) (h4 : x4.length ≤ 100) (l : List S25) (hv : ∀ r ∈ l, Vrd r) (hl : l.length ≤ 2000) (d : Nat) :
    ∀ (i : Nat) (x6 : List Int) (p q : Int), i + d = l.length → x6.length ≤ 20 * i → 0 ≤ p → p ≤ 1099511627776 → -1000 ≤ q → q ≤ 1000 →
      Ev (fun k => packet_Encode.l0 k x4 x6 l (l.length : Int) (i : Int) p q) (sealB (x4 ++ (x6 ++ encR p q (l.drop i))), 0) := by
  induction d with
  | zero =>
    intro i x6 p q hi h6 p0 p1 q0 q1
    refine Ev.step (fun k => by rw [packet_Encode.l0]) (Ev.neg (by omega) (Ev.pos (by omega) ?_))
    rw [show l.drop i = [] from List.drop_eq_nil_of_le (by omega)]
    have e : encR p q [] = [] := rfl
    rw [e, List.append_nil]
    refine Ev.bind (Ev.now _) (Ev.bind (Ev.now (X.crc (x4 ++ x6))) (Ev.bind (Ev.now _) (Ev.pos (by simp; omega) (Ev.now _))))
  | succ d ih =>
    intro i x6 p q hi h6 p0 p1 q0 q1
    have hlt : i < l.length := by omega
    have hi1 : i + 1 + d = l.length := by omega
    have hr := hv l[i] (List.getElem_mem _)
    have hr' := hr
    obtain ⟨h1, h2, h3, h5⟩ := hr'
    refine Ev.step (fun k => by rw [packet_Encode.l0]) (Ev.pos (by omega) (Ev.pos (by omega) (Ev.pos (by omega) ?_)))
    rw [rdT_nat l i hlt, valid_is hr, List.drop_eq_getElem_cons hlt, w_succ (by omega)]
    generalize l[i] = r at *
    have a := encN_ten (foldN_lt (n := r.f0 - p) (by omega) (by omega))
    have b := encN_ten (foldN_lt (n := r.f1 - q) (by omega) (by omega))
    rw [w64 (n := r.f0 - p) (by omega) (by omega), w64 (n := r.f1 - q) (by omega) (by omega)]
    refine Ev.bind (Ev.now _) (Ev.pos rfl (Ev.bind (put_is (by omega) (by omega) [] (by simp)) (Ev.bind (put_is (by omega) (by omega) _ (by simp; omega)) ?_)))
    rw [List.nil_append]
    refine Ev.pos (by rw [List.length_append]; omega) ?_
    have := ih (i + 1) (x6 ++ (encN (foldN (r.f0 - p)) ++ encN (foldN (r.f1 - q)))) r.f0 r.f1 hi1 (by rw [List.length_append, List.length_append]; omega) h1 h2 h3 h5
    rw [List.append_assoc] at this
    exact this
theorem Encode_is (l : List S25) (hv : ∀ r ∈ l, Vrd r) (hl : l.length ≤ 2000) : Ev (fun k => packet_Encode.f k l) (sealB (([84, 83, 49] ++ encN (foldN (l.length : Int))) ++ encR 0 0 l), 0) := by
  unfold packet_Encode.f
  refine Ev.neg (by omega) (Ev.bind (put_is (by omega) (by omega) _ (by simp)) ?_)
  have a := encN_ten (foldN_lt (n := (l.length : Int)) (by omega) (by omega))
  have := Encode_l0 ([84, 83, 49] ++ encN (foldN (l.length : Int))) (by simp; omega) l hv hl l.length 0 [] 0 0 (by omega) (by simp) (by omega) (by omega) (by omega) (by omega)
  rw [List.drop_zero, List.nil_append] at this
  exact this
theorem awake_is : Ev (fun k => shapesearchlaw06_awake.f k) true := Ev.of shapesearchlaw06_awake.mono (k := 40) (by decide +kernel)
/-! ### the law's own writer of numbers -/
theorem folded_is {n : Int} (h1 : -9223372036854775808 ≤ n) (h2 : n ≤ 9223372036854775807) : shapesearchref03_Folded.f n = some (foldN n : Int) := by
  unfold shapesearchref03_Folded.f foldN
  by_cases h : 0 ≤ n
  · rw [if_pos h, if_pos h, wu64, wu64]
    congr 1
    omega
  · rw [if_neg h, if_neg h, w64 (n := n + 1) (by omega) (by omega), w64 (n := -(n + 1)) (by omega) (by omega), wu64, wu64, wu64]
    congr 1
    omega
theorem refput_loop : ∀ (k u : Nat), u < k → u < 18446744073709551616 → ∀ (out : List Int), out.length + (encN u).length ≤ 140737488355328 → Ev (fun n => shapesearchref03_PutInt.l0 n out (u : Int)) (out ++ encN u)
  | 0, u, h, _, _, _ => absurd h (Nat.not_lt_zero _)
  | k + 1, u, h, h64, out, hb => by
    have hp := encN_pos u
    refine Ev.step (fun n => by rw [shapesearchref03_PutInt.l0]) ?_
    by_cases hu : u < 128
    · refine Ev.neg (by omega) (Ev.pos (by omega) ?_)
      rw [encN_short hu]
      have e : (u : Int) % 256 = u := by omega
      rw [e]
      exact Ev.now _
    · rw [encN_long hu] at hb ⊢
      have hp' := encN_pos (u / 128)
      rw [List.length_cons] at hb
      refine Ev.pos (by omega) (Ev.pos (by omega) ?_)
      have e1 : Int.tdiv (u : Int) 128 = ((u / 128 : Nat) : Int) := rfl
      have e2 : Int.tmod (u : Int) 128 = ((u % 128 : Nat) : Int) := rfl
      have e3 : IntKind.u64.wrap ((u / 128 : Nat) : Int) = ((u / 128 : Nat) : Int) := by rw [wu64]; omega
      have e4 : IntKind.u64.wrap (((u % 128 : Nat) : Int) + 128) % 256 = ((u % 128 + 128 : Nat) : Int) := by rw [wu64]; omega
      rw [e1, e2, e3, e4]
      have := refput_loop k (u / 128) (by omega) (by omega) (out ++ [((u % 128 + 128 : Nat) : Int)]) (by rw [List.length_append, List.length_singleton]; omega)
      rw [List.append_assoc] at this
      exact this
theorem refput_is {n : Int} (h1 : -9223372036854775808 ≤ n) (h2 : n ≤ 9223372036854775807) (l : List Int) (hl : l.length ≤ 1000000) : Ev (fun k => shapesearchref03_PutInt.f k l n) (l ++ encN (foldN n)) := by
  have h3 := encN_ten (foldN_lt h1 h2)
  unfold shapesearchref03_PutInt.f
  refine Ev.bind (Ev.now _) (Ev.pos (by simp; omega) ?_)
  rw [folded_is h1 h2, List.nil_append]
  exact Ev.bind (Ev.now _) (refput_loop _ _ (Nat.lt_succ_self _) (foldN_lt h1 h2) l (by omega))
/-! ### numbers out of a list -/
theorem keep_New (l0 : List Int) (h : ∀ x ∈ l0, (Lit.int .i64 x).wf = true) (hl : l0.length ≤ maxLen) : EvP (fun _ => shapesearchkeep_New.f l0) (fun r => Src r.1 r.2) := by
  have e : mn (l0.length : Int) 2000 = ((min l0.length 2000 : Nat) : Int) := by unfold mn; split <;> omega
  unfold shapesearchkeep_New.f
  rw [e]
  refine EvP.pos (by omega) (EvP.pos (by omega) (EvP.ret ?_))
  refine ⟨Int.le_refl _, by omega, by rw [List.length_take]; omega, fun x hx => b_i64 (h x (List.mem_of_mem_take hx))⟩
theorem keep_Raw (s : List Int) (a : Int) (h : Src s a) : EvP (fun _ => shapesearchkeep_Src_Raw.f s a) (fun r => Src s r.2 ∧ -9223372036854775808 ≤ r.1 ∧ r.1 ≤ 9223372036854775807) := by
  obtain ⟨h0, h1, h2, h3⟩ := h
  unfold shapesearchkeep_Src_Raw.f
  refine EvP.ite (fun hc => EvP.ret ⟨⟨h0, h1, h2, h3⟩, by omega, by omega⟩) (fun hc => ?_)
  have hw : wrap64 (a + 1) = a + 1 := w64 (by omega) (by omega)
  have hw2 : wrap64 (a + 1 - 1) = a := by rw [w64 (by omega) (by omega)]; omega
  rw [hw, hw2]
  have hm := h3 _ (rd_mem s a h0 (by omega))
  exact EvP.pos h0 (EvP.pos (by omega) (EvP.ret ⟨⟨by omega, by omega, h2, h3⟩, hm⟩))
theorem keep_Mod (a n : Int) (ha : -9223372036854775808 ≤ a) (ha' : a ≤ 9223372036854775807) (hn : 1 ≤ n) (hn' : n ≤ 9223372036854775807) : EvP (fun _ => shapesearchkeep_Mod.f a n) (fun t => 0 ≤ t ∧ t < n) := by
  have h1 := Int.tmod_lt_of_pos a (show 0 < n by omega)
  have h2 := Int.lt_tmod_of_pos a (show 0 < n by omega)
  unfold shapesearchkeep_Mod.f
  refine EvP.neg (by omega) (EvP.neg (by omega) (EvP.ite (fun hc => EvP.ret ?_) (fun hc => EvP.ret ?_)))
  · rw [w64 (by omega) (by omega)]
    omega
  · omega
theorem keep_N (s : List Int) (a n : Int) (h : Src s a) (hn : 1 ≤ n) (hn' : n ≤ 9223372036854775807) : EvP (fun _ => shapesearchkeep_Src_N.f s a n) (fun r => Src s r.2 ∧ 0 ≤ r.1 ∧ r.1 < n) := by
  unfold shapesearchkeep_Src_N.f
  refine EvP.bind (keep_Raw s a h) (fun x hx => EvP.bind (keep_Mod x.1 n hx.2.1 hx.2.2 hn hn') (fun t ht => EvP.ret ⟨hx.1, ht⟩))
theorem keep_Range (s : List Int) (a lo hi : Int) (h : Src s a) (hlo : -1000000000000 ≤ lo) (hlh : lo ≤ hi) (hhi : hi ≤ 1000000000000) : EvP (fun _ => shapesearchkeep_Src_Range.f s a lo hi) (fun r => Src s r.2 ∧ lo ≤ r.1 ∧ r.1 ≤ hi) := by
  have e1 : wrap64 (hi - lo) = hi - lo := w64 (by omega) (by omega)
  have e2 : wrap64 (hi - lo + 1) = hi - lo + 1 := w64 (by omega) (by omega)
  unfold shapesearchkeep_Src_Range.f
  rw [e1, e2]
  refine EvP.bind (keep_N s a (hi - lo + 1) h (by omega) (by omega)) (fun x hx => EvP.ret ⟨hx.1, ?_⟩)
  have e3 : wrap64 (lo + x.1) = lo + x.1 := w64 (by omega) (by omega)
  show lo ≤ wrap64 (lo + x.1) ∧ wrap64 (lo + x.1) ≤ hi
  rw [e3]
  omega
theorem keep_Pick (s : List Int) (a : Int) (l : List Int) (h : Src s a) (hl : 1 ≤ l.length) (hl' : l.length ≤ 1000000) : EvP (fun _ => shapesearchkeep_Src_Pick.f s a l) (fun r => Src s r.2 ∧ r.1 ∈ l) := by
  unfold shapesearchkeep_Src_Pick.f
  exact EvP.bind (keep_N s a l.length h (by omega) (by omega)) (fun x hx => EvP.pos hx.2.1 (EvP.pos hx.2.2 (EvP.ret ⟨hx.1, rd_mem l x.1 hx.2.1 hx.2.2⟩)))
/-! ### strings of bytes -/
def bts (l : List Int) : Prop := ∀ x ∈ l, 0 ≤ x ∧ x ≤ 255
theorem toList_loop (bs : ByteArray) (d : Nat) : ∀ (i : Nat) (r : List UInt8), i + d = bs.size → ByteArray.toList.loop bs i r = r.reverse ++ bs.data.toList.drop i := by
  induction d with
  | zero =>
    intro i r hi
    unfold ByteArray.toList.loop
    rw [if_neg (by omega), show bs.data.toList.drop i = [] from List.drop_eq_nil_of_le (by rw [Array.length_toList]; show bs.size ≤ i; omega), List.append_nil]
  | succ d ih =>
    intro i r hi
    have hlt : i < bs.data.toList.length := by rw [Array.length_toList]; show i < bs.size; omega
    unfold ByteArray.toList.loop
    rw [if_pos (by omega), ih (i + 1) _ (by omega), List.drop_eq_getElem_cons hlt]
    have e : bs.get! i = bs.data.toList[i] := by
      rw [Array.getElem_toList]
      show bs.data[i]! = _
      exact getElem!_pos bs.data i (by rw [← Array.length_toList]; exact hlt)
    rw [e]
    simp
theorem toList_data (bs : ByteArray) : bs.toList = bs.data.toList := toList_loop bs bs.size 0 [] (by omega)
theorem str_inj {A B : List Int} (hA : bts A) (hB : bts B) (h : (strOfNums A).toList = (strOfNums B).toList) : A = B := by
  rw [toList_data, toList_data] at h
  have h' : A.map (fun n => UInt8.ofNat n.toNat) = B.map (fun n => UInt8.ofNat n.toNat) := h
  have back : ∀ C : List Int, bts C → (C.map (fun n => UInt8.ofNat n.toNat)).map (fun u => (u.toNat : Int)) = C := by
    intro C hC
    rw [List.map_map]
    refine (List.map_congr_left (fun x hx => ?_)).trans (List.map_id C)
    have := hC x hx
    show ((UInt8.ofNat x.toNat).toNat : Int) = x
    rw [UInt8.toNat_ofNat']
    omega
  rw [← back A hA, ← back B hB, h']
/-! ### what is written can be told apart -/
theorem encN_bts : ∀ (k u : Nat), u < k → bts (encN u)
  | 0, u, h => absurd h (Nat.not_lt_zero _)
  | k + 1, u, h => by
    intro x hx
    by_cases hu : u < 128
    · rw [encN_short hu] at hx
      have : x = (u : Int) := by simpa using hx
      omega
    · rw [encN_long hu] at hx
      rcases List.mem_cons.1 hx with rfl | hx
      · omega
      · exact encN_bts k (u / 128) (by omega) x hx
theorem encR_bts : ∀ (l : List S25) (p q : Int), bts (encR p q l)
  | [], _, _ => fun x h => by cases h
  | r :: l, p, q => by
    intro x hx
    rcases List.mem_append.1 (show x ∈ (encN (foldN (r.f0 - p)) ++ encN (foldN (r.f1 - q))) ++ encR r.f0 r.f1 l from hx) with h | h
    · rcases List.mem_append.1 h with h | h
      · exact encN_bts _ _ (Nat.lt_succ_self _) x h
      · exact encN_bts _ _ (Nat.lt_succ_self _) x h
    · exact encR_bts l r.f0 r.f1 x h
def bodyB (l : List S25) : List Int := ([84, 83, 49] ++ encN (foldN (l.length : Int))) ++ encR 0 0 l
theorem sealB_bts {b : List Int} (h : bts b) : bts (sealB b) := by
  intro x hx
  unfold sealB at hx
  rcases List.mem_append.1 hx with hx | hx
  · exact h x hx
  · generalize X.crc b = c at hx
    simp only [List.mem_cons, List.not_mem_nil, or_false] at hx
    omega
theorem bodyB_bts (l : List S25) : bts (bodyB l) := by
  intro x hx
  rcases List.mem_append.1 hx with h | h
  · rcases List.mem_append.1 h with h | h
    · simp only [List.mem_cons, List.not_mem_nil, or_false] at h
      omega
    · exact encN_bts _ _ (Nat.lt_succ_self _) x h
  · exact encR_bts l 0 0 x h
/-! ### readings out of a list -/
theorem mul_abs' {u v : Int} (h1 : -30 ≤ u) (h2 : u ≤ 30) (h3 : 1 ≤ v) (h4 : v ≤ 33) : -990 ≤ u * v ∧ u * v ≤ 990 := by
  have a1 := Int.mul_nonneg (show 0 ≤ u + 30 by omega) (show 0 ≤ v by omega)
  have a2 := Int.mul_nonneg (show 0 ≤ 30 - u by omega) (show 0 ≤ v by omega)
  rw [Int.add_mul] at a1
  rw [Int.sub_mul] at a2
  omega
theorem keep_Readings (s : List Int) (a : Int) (h : Src s a) (n : Int) (hn : 0 ≤ n) (hn' : n ≤ 1000) : EvP (fun k => shapesearchkeep_Src_Readings.f k s a n) (fun r => Src s r.2 ∧ (∀ x ∈ r.1, Vrd x) ∧ r.1.length ≤ n) := by
  unfold shapesearchkeep_Src_Readings.f
  rw [w64 (n := n + 1) (by omega) (by omega)]
  refine EvP.bind (keep_Pick s a [0, 5, 1000, 1099511627576] h (by simp) (by simp)) (fun p hp => EvP.bind (keep_N s p.2 (n + 1) hp.1 (by omega) (by omega)) (fun q hq => ?_))
  have key : ∀ (d : Nat) (out : List S25) (t c a' : Int), c = d → out.length + c ≤ n → (∀ x ∈ out, Vrd x) → 0 ≤ t → t ≤ 1099511627776 → Src s a' →
      EvP (fun k => shapesearchkeep_Src_Readings.l0 k out t c s a') (fun r => Src s r.2 ∧ (∀ x ∈ r.1, Vrd x) ∧ r.1.length ≤ n) := by
    intro d
    induction d with
    | zero =>
      intro out t c a' hc ho hv t0 t1 hs
      exact EvP.step (fun k => by rw [shapesearchkeep_Src_Readings.l0]) (EvP.neg (by omega) (EvP.ret ⟨hs, hv, by dsimp only; omega⟩))
    | succ d ih =>
      intro out t c a' hc ho hv t0 t1 hs
      refine EvP.step (fun k => by rw [shapesearchkeep_Src_Readings.l0]) (EvP.pos (by omega) ?_)
      refine EvP.bind (keep_Pick s a' [0, 1, 1, 3, 10, -2] hs (by simp) (by simp)) (fun u hu => EvP.bind (keep_Range s u.2 (-30) 30 hu.1 (by omega) (by omega) (by omega)) (fun v hv' => EvP.bind (keep_Pick s v.2 [1, 1, 33] hv'.1 (by simp) (by simp)) (fun z hz => EvP.pos (by omega) ?_)))
      have z1 : 1 ≤ z.1 ∧ z.1 ≤ 33 := by
        have := hz.2
        simp at this
        omega
      have m1 := mul_abs' hv'.2.1 hv'.2.2 z1.1 z1.2
      rw [w64 (n := v.1 * z.1) (by omega) (by omega), w64 (n := c - 1) (by omega) (by omega)]
      have g0 : 0 ≤ mx 0 (mn 1099511627776 (wrap64 (t + u.1))) := le_mx_left _ _
      have g1 : mx 0 (mn 1099511627776 (wrap64 (t + u.1))) ≤ 1099511627776 := mx_le (by omega) (mn_le_left _ _)
      generalize mx 0 (mn 1099511627776 (wrap64 (t + u.1))) = t' at *
      refine ih _ t' (c - 1) z.2 (by omega) (by rw [List.length_append, List.length_singleton]; omega) (fun x hx => ?_) g0 g1 hz.1
      rcases List.mem_append.1 hx with hx | hx
      · exact hv x hx
      · have : x = ⟨t', v.1 * z.1⟩ := by simpa using hx
        subst this
        exact ⟨g0, g1, by dsimp only; omega, by dsimp only; omega⟩
  have hp2 := hp.2
  simp at hp2
  exact key q.1.toNat [] p.1 q.1 q.2 (by omega) (by simp; omega) (fun x h => by cases h) (by omega) (by omega) hq.1
theorem same_is (x y : List S25) (hx : x.length ≤ 1000000) : EvP (fun k => shapesearchref05_Same.f k x y) (fun b => (b = true ↔ x = y)) := by
  unfold shapesearchref05_Same.f
  by_cases h : x.length = y.length
  · refine EvP.pos (by omega) ?_
    have key : ∀ (d i : Nat), i + d = x.length → EvP (fun k => shapesearchref05_Same.l0 k x y (x.length : Int) (i : Int)) (fun b => (b = true ↔ x.drop i = y.drop i)) := by
      intro d
      induction d with
      | zero =>
        intro i hi
        refine EvP.step (fun k => by rw [shapesearchref05_Same.l0]) (EvP.neg (by omega) (EvP.ret ?_))
        rw [show x.drop i = [] from List.drop_eq_nil_of_le (by omega), show y.drop i = [] from List.drop_eq_nil_of_le (by omega)]
        simp
      | succ d ih =>
        intro i hi
        have hlt : i < x.length := by omega
        have hlt' : i < y.length := by omega
        refine EvP.step (fun k => by rw [shapesearchref05_Same.l0]) (EvP.pos (by omega) (EvP.pos (by omega) (EvP.pos (by omega) (EvP.pos (by omega) ?_))))
        rw [rdT_nat x i hlt, rdT_nat y i hlt', List.drop_eq_getElem_cons hlt, List.drop_eq_getElem_cons hlt', w_succ (by omega)]
        have ih1 := ih (i + 1) (by omega)
        generalize x[i] = r at *
        generalize y[i] = s at *
        obtain ⟨r0, r1⟩ := r
        obtain ⟨s0, s1⟩ := s
        dsimp only
        by_cases h0 : r0 = s0
        · by_cases h1 : r1 = s1
          · refine EvP.neg (by simp [h0, h1]) (ih1.mono (fun b hb => ?_))
            rw [hb, List.cons.injEq, S25.mk.injEq]
            exact ⟨fun e => ⟨⟨h0, h1⟩, e⟩, fun e => e.2⟩
          · refine EvP.pos (by simp [h1]) (EvP.ret ⟨fun e => (by cases e), fun e => absurd (S25.mk.inj (List.cons.inj e).1).2 h1⟩)
        · refine EvP.pos (by simp [h0]) (EvP.ret ⟨fun e => (by cases e), fun e => absurd (S25.mk.inj (List.cons.inj e).1).1 h0⟩)
    exact key x.length 0 (by omega)
  · refine EvP.neg (by omega) (EvP.ret ⟨fun e => (by cases e), fun e => absurd (by rw [e]) h⟩)
/-! ### what Decode makes of bytes -/
theorem shr32 (c : Int) : shr .u32 c 0 = c ∧ shr .u32 c 8 = c / 256 ∧ shr .u32 c 16 = c / 65536 ∧ shr .u32 c 24 = c / 16777216 := by
  refine ⟨?_, rfl, rfl, rfl⟩
  show c / 1 = c
  omega
theorem sums_iff (l : List Int) : packet_Decode.sums l = true ↔ (rd l ((l.length : Int) - 4 + 0) = X.crc (l.take ((l.length : Int) - 4).toNat) % 256 ∧ rd l ((l.length : Int) - 4 + 1) = X.crc (l.take ((l.length : Int) - 4).toNat) / 256 % 256 ∧ rd l ((l.length : Int) - 4 + 2) = X.crc (l.take ((l.length : Int) - 4).toNat) / 65536 % 256 ∧ rd l ((l.length : Int) - 4 + 3) = X.crc (l.take ((l.length : Int) - 4).toNat) / 16777216 % 256) := by
  have e : List.range 4 = [0, 1, 2, 3] := by decide
  unfold packet_Decode.sums
  rw [e]
  generalize X.crc (l.take ((l.length : Int) - 4).toNat) = c
  obtain ⟨s0, s1, s2, s3⟩ := shr32 c
  simp only [List.all_cons, List.all_nil, Bool.and_true, Bool.and_eq_true, beq_iff_eq]
  have m0 : 8 * ((0 : Nat) : Int) = 0 := rfl
  have m1 : 8 * ((1 : Nat) : Int) = 8 := rfl
  have m2 : 8 * ((2 : Nat) : Int) = 16 := rfl
  have m3 : 8 * ((3 : Nat) : Int) = 24 := rfl
  rw [m0, m1, m2, m3, s0, s1, s2, s3]
  exact Iff.rfl
theorem take_seal (b : List Int) : (sealB b).take (((sealB b).length : Int) - 4).toNat = b := by
  have e : (((sealB b).length : Int) - 4).toNat = b.length := by unfold sealB; rw [List.length_append]; simp
  rw [e]
  unfold sealB
  exact List.take_left
theorem rd_app (b s : List Int) (i : Nat) : rd (b ++ s) ((b.length : Int) + (i : Int)) = s.getD i 0 := by
  have e : ((b.length : Int) + (i : Int)).toNat = b.length + i := by omega
  unfold rd
  rw [e, List.getD_eq_getElem?_getD, List.getElem?_append_right (by omega), show b.length + i - b.length = i by omega, List.getD_eq_getElem?_getD]
theorem sums_seal (b : List Int) : packet_Decode.sums (sealB b) = true := by
  rw [sums_iff, take_seal]
  have e : ((sealB b).length : Int) - 4 = (b.length : Int) := by unfold sealB; rw [List.length_append]; simp
  rw [e]
  unfold sealB
  generalize X.crc b = c
  exact ⟨rd_app b _ 0, rd_app b _ 1, rd_app b _ 2, rd_app b _ 3⟩
theorem seal_of (l : List Int) (h : 4 ≤ l.length) (hs : packet_Decode.sums l = true) : l = sealB (l.take (l.length - 4)) := by
  obtain ⟨s0, s1, s2, s3⟩ := (sums_iff l).1 hs
  have e : ((l.length : Int) - 4).toNat = l.length - 4 := by omega
  rw [e] at s0 s1 s2 s3
  have hl : (l.take (l.length - 4)).length = l.length - 4 := by rw [List.length_take]; omega
  unfold sealB
  refine List.ext_getElem (by rw [List.length_append, hl]; simp; omega) (fun i h1 h2 => ?_)
  by_cases hi : i < l.length - 4
  · rw [List.getElem_append_left (by rw [hl]; exact hi), List.getElem_take]
  · rw [List.getElem_append_right (by rw [hl]; omega)]
    have key : ∀ q : Nat, q < 4 → i = l.length - 4 + q → l[i] = rd l ((l.length : Int) - 4 + (q : Int)) := by
      intro q hq e2
      have e3 : ((l.length : Int) - 4 + (q : Int)) = ((l.length - 4 + q : Nat) : Int) := by omega
      rw [e3, rd_nat l _ (by omega)]
      subst e2
      rfl
    have hq : i = l.length - 4 + 0 ∨ i = l.length - 4 + 1 ∨ i = l.length - 4 + 2 ∨ i = l.length - 4 + 3 := by omega
    rcases hq with hq | hq | hq | hq
    · rw [key 0 (by decide) hq]
      refine s0.trans ?_
      have : i - (l.take (l.length - 4)).length = 0 := by rw [hl]; omega
      simp only [this]
      rfl
    · rw [key 1 (by decide) hq]
      refine s1.trans ?_
      have : i - (l.take (l.length - 4)).length = 1 := by rw [hl]; omega
      simp only [this]
      rfl
    · rw [key 2 (by decide) hq]
      refine s2.trans ?_
      have : i - (l.take (l.length - 4)).length = 2 := by rw [hl]; omega
      simp only [this]
      rfl
    · rw [key 3 (by decide) hq]
      refine s3.trans ?_
      have : i - (l.take (l.length - 4)).length = 3 := by rw [hl]; omega
      simp only [this]
      rfl
theorem near_is {p d : Int} (p1 : -1099511627776 ≤ p) (p2 : p ≤ 1099511627776) (h1 : -4398046511104 ≤ d) (h2 : d ≤ 4398046511104) : packet_near.f p d = some (p + d) := by
  have e : mn (mx d (-4398046511104)) 4398046511104 = d := by
    unfold mn mx
    split <;> split <;> omega
  unfold packet_near.f
  rw [e, w64 (by omega) (by omega)]
theorem near_far {p d : Int} (p1 : -1099511627776 ≤ p) (p2 : p ≤ 1099511627776) (h : ¬ (-4398046511104 ≤ d ∧ d ≤ 4398046511104)) : ∃ x, packet_near.f p d = some x ∧ (x < -2199023255552 ∨ 2199023255552 < x) := by
  by_cases h1 : d < 0
  · have e : mn (mx d (-4398046511104)) 4398046511104 = -4398046511104 := by
      unfold mn mx
      split <;> split <;> omega
    exact ⟨p + -4398046511104, by unfold packet_near.f; rw [e, w64 (by omega) (by omega)], by omega⟩
  · have e : mn (mx d (-4398046511104)) 4398046511104 = 4398046511104 := by
      unfold mn mx
      split <;> split <;> omega
    exact ⟨p + 4398046511104, by unfold packet_near.f; rw [e, w64 (by omega) (by omega)], by omega⟩
theorem valid_any (x y : Int) : ∃ v : Bool, packet_valid.f x y = some v ∧ (v = true ↔ Vrd ⟨x, y⟩) := by
  unfold packet_valid.f Vrd
  by_cases h1 : x ≥ 0
  · rw [if_pos h1]
    by_cases h2 : x ≤ 1099511627776
    · rw [if_pos h2]
      by_cases h3 : y ≥ -1000
      · rw [if_pos h3]
        exact ⟨_, rfl, by rw [decide_eq_true_iff]; exact ⟨fun h => ⟨h1, h2, h3, h⟩, fun h => h.2.2.2⟩⟩
      · rw [if_neg h3]
        exact ⟨_, rfl, ⟨fun h => (by cases h), fun h => absurd h.2.2.1 h3⟩⟩
    · rw [if_neg h2]
      exact ⟨_, rfl, ⟨fun h => (by cases h), fun h => absurd h.2.1 h2⟩⟩
  · rw [if_neg h1]
    exact ⟨_, rfl, ⟨fun h => (by cases h), fun h => absurd h.1 h1⟩⟩
theorem body_len (x : List S25) (hv : ∀ r ∈ x, Vrd r) (hx : x.length ≤ 2000) : 4 ≤ (bodyB x).length ∧ (bodyB x).length ≤ 13 + 20 * x.length := by
  have a := encN_ten (foldN_lt (n := (x.length : Int)) (by omega) (by omega))
  have a' := encN_pos (foldN (x.length : Int))
  have b := encR_len x hv 0 0 (by omega) (by omega) (by omega) (by omega)
  unfold bodyB
  rw [List.length_append, List.length_append, show ([84, 83, 49] : List Int).length = 3 from rfl]
  omega
theorem seal_len (b : List Int) : (sealB b).length = b.length + 4 := by
  unfold sealB
  rw [List.length_append]
  rfl
/-! ### numbers as both readers read them -/
def unf (u : Nat) : Int := if u % 2 = 0 then ((u / 2 : Nat) : Int) else -((u / 2 : Nat) : Int) - 1
def rdN : Nat → List Int → Nat → Nat → Int × Nat × Int
  | 0, _, _, _ => (0, 0, 3)
  | _ + 1, [], _, _ => (0, 0, 2)
  | d + 1, b :: s, u, j => if 128 ≤ b then rdN d s (u + b.toNat % 128 * 2 ^ (7 * j)) (j + 1) else (if (j = 9 ∧ 1 < b) ∨ (0 < j ∧ b = 0) then (0, 0, 3) else (unf (u + b.toNat * 2 ^ (7 * j)), j + 1, 0))
def place (p : Nat) (r : Int × Nat × Int) : Int × Int × Int := if r.2.2 = 0 then (r.1, ((p + r.2.1 : Nat) : Int), 0) else (0, 0, r.2.2)
theorem place_err (p : Nat) (r : Int × Nat × Int) : (place p r).2.2 = r.2.2 := by
  unfold place
  split
  · rename_i h
    exact h.symm
  · rfl
theorem place_ok {p : Nat} {r : Int × Nat × Int} (h : r.2.2 = 0) : place p r = (r.1, ((p + r.2.1 : Nat) : Int), 0) := if_pos h
theorem unf_fold (n : Int) : unf (foldN n) = n := by
  unfold unf foldN
  by_cases h : 0 ≤ n
  · rw [if_pos h, if_pos (by omega)]
    omega
  · rw [if_neg h, if_neg (by omega)]
    omega
theorem rdN_ok : ∀ (d : Nat) (s : List Int) (u j : Nat), (rdN d s u j).2.2 = 0 → j < (rdN d s u j).2.1 ∧ (rdN d s u j).2.1 ≤ j + s.length
  | 0, s, u, j, h => absurd (show (3 : Int) = 0 from h) (by decide)
  | d + 1, [], u, j, h => absurd (show (2 : Int) = 0 from h) (by decide)
  | d + 1, b :: s, u, j, h => by
    unfold rdN at h ⊢
    by_cases h1 : 128 ≤ b
    · rw [if_pos h1] at h ⊢
      have := rdN_ok d s _ _ h
      rw [List.length_cons]
      omega
    · rw [if_neg h1] at h ⊢
      by_cases h2 : (j = 9 ∧ 1 < b) ∨ (0 < j ∧ b = 0)
      · rw [if_pos h2] at h
        exact absurd (show (3 : Int) = 0 from h) (by decide)
      · rw [if_neg h2]
        rw [List.length_cons]
        dsimp only
        omega
theorem cint_loop (at_ : Nat) (hat : at_ ≤ 900) :
    ∀ (d j : Nat), j + d = 10 → ∀ (pre rest : List Int) (u : Nat), pre.length = at_ + j → u < 2 ^ (7 * j) → (∀ x ∈ rest, 0 ≤ x ∧ x ≤ 255) →
      Ev (fun k => codec_Int.l0 k (pre ++ rest) (at_ : Int) (u : Int) (j : Int)) (place at_ (rdN d rest u j))
  | 0, j, hj, pre, rest, u, hp, hu, hr => by
    show Ev _ ((0 : Int), (0 : Int), (3 : Int))
    exact Ev.step (fun k => by rw [codec_Int.l0]) (Ev.neg (by omega) (Ev.now _))
  | d + 1, j, hjd, pre, [], u, hp, hu, hr => by
    show Ev _ ((0 : Int), (0 : Int), (2 : Int))
    have hb : pre.length ≤ 1000 := by omega
    have ew := w_addn hp hb
    refine Ev.step (fun k => by rw [codec_Int.l0]) (Ev.pos (by omega) ?_)
    rw [ew, List.append_nil]
    exact Ev.pos (by omega) (Ev.now _)
  | d + 1, j, hjd, pre, c :: rest, u, hp, hu, hr => by
    have hj : j ≤ 9 := by omega
    have hb : pre.length ≤ 1000 := by omega
    have hc := hr c (List.mem_cons_self ..)
    obtain ⟨x, rfl⟩ := Int.eq_ofNat_of_zero_le hc.1
    have hx8 : x < 256 := by omega
    have hl : (pre ++ (x : Int) :: rest).length = pre.length + 1 + rest.length := by simp; omega
    have er : rdN (d + 1) ((x : Int) :: rest) u j = if 128 ≤ (x : Int) then rdN d rest (u + x % 128 * 2 ^ (7 * j)) (j + 1) else (if (j = 9 ∧ 1 < (x : Int)) ∨ (0 < j ∧ (x : Int) = 0) then (0, 0, 3) else (unf (u + x * 2 ^ (7 * j)), j + 1, 0)) := rfl
    rw [er]
    clear er
    have g1 : x < 128 → ¬ 128 ≤ (x : Int) := fun h => by omega
    have g2 : ¬ x < 128 → 128 ≤ (x : Int) := fun h => by omega
    have g3 : (j = 9 ∧ 1 < x) → ((j = 9 ∧ 1 < (x : Int)) ∨ (0 < j ∧ (x : Int) = 0)) := fun h => by omega
    have g4 : (1 ≤ j ∧ x = 0) → ((j = 9 ∧ 1 < (x : Int)) ∨ (0 < j ∧ (x : Int) = 0)) := fun h => by omega
    have g5 : ¬ (j = 9 ∧ 1 < x) → ¬ (1 ≤ j ∧ x = 0) → ¬ ((j = 9 ∧ 1 < (x : Int)) ∨ (0 < j ∧ (x : Int) = 0)) := fun h h' => by omega
    have g6 : j = 9 → d = 0 := fun h => by omega
    have g7 : (j : Int) < 10 := by omega
    refine Ev.step (fun k => by rw [codec_Int.l0]) (Ev.pos g7 ?_)
    have ew := w_addn hp hb
    have e7 := w_sevn hj
    have es := w_succ (i := pre.length) (Nat.lt_of_le_of_lt hb (by decide))
    have ej := w_succ (i := j) (Nat.lt_of_le_of_lt hj (by decide))
    rw [ew, rd_mid]
    by_cases hc : x < 128
    · rw [if_neg (g1 hc)]
      by_cases h9 : j = 9 ∧ 1 < x
      · rw [if_pos (g3 h9)]
        simp only [e7]
        clear ew e7 es ej
        show Ev _ ((0 : Int), (0 : Int), (3 : Int))
        exact Ev.neg (by rw [hl]; omega) (Ev.pos (by omega) (Ev.pos (by rw [hl]; omega) (Ev.pos (by omega) (Ev.neg (by omega) (Ev.pos (by omega) (Ev.pos (by omega) (Ev.now _)))))))
      by_cases h0 : 1 ≤ j ∧ x = 0
      · rw [if_pos (g4 h0)]
        simp only [e7]
        clear ew e7 es ej
        show Ev _ ((0 : Int), (0 : Int), (3 : Int))
        refine Ev.neg (by rw [hl]; omega) (Ev.pos (by omega) (Ev.pos (by rw [hl]; omega) (Ev.pos (by omega) (Ev.neg (by omega) ?_))))
        by_cases h9' : j = 9
        · exact Ev.pos (by omega) (Ev.neg (by omega) (Ev.pos (by omega) (Ev.pos (by omega) (Ev.now _))))
        · exact Ev.neg (by omega) (Ev.pos (by omega) (Ev.pos (by omega) (Ev.now _)))
      have hle : u + x * 2 ^ (7 * j) < 18446744073709551616 := by
        clear ew e7 es ej
        by_cases h9' : j = 9
        · subst h9'
          have e9 : (2 : Nat) ^ (7 * 9) = 9223372036854775808 := by decide
          rw [e9] at hu ⊢
          omega
        · have h8 := pow_eight (j := j) (by omega)
          have h5 : x * 2 ^ (7 * j) ≤ 127 * 2 ^ (7 * j) := Nat.mul_le_mul_right _ (by omega)
          omega
      obtain ⟨n, n1, n2, hn⟩ := fold_surj _ hle
      have hpart := part_is (x := x) (v := x) (u := u) (j := j) (Nat.mod_le _ _) hx8 hu hj hle
      rw [Nat.mod_eq_of_lt hc, ← hn] at hpart
      have ef := unfold_is n1 n2
      rw [hpart, ef, ← hn, unf_fold]
      simp only [es, e7]
      clear hpart ef es e7 ew ej
      rw [if_neg (g5 h9 h0)]
      have fin : place at_ (n, j + 1, 0) = (n, ((pre.length + 1 : Nat) : Int), 0) := by rw [hp]; rfl
      rw [fin]
      refine Ev.neg (by rw [hl]; omega) (Ev.pos (by omega) (Ev.pos (by rw [hl]; omega) (Ev.pos (by omega) (Ev.neg (by omega) ?_))))
      have last : Ev (fun k => if (j : Int) > 0 then (if (x : Int) = 0 then some ((0 : Int), (0 : Int), (3 : Int)) else some (n, ((pre.length + 1 : Nat) : Int), 0)) else some (n, ((pre.length + 1 : Nat) : Int), 0)) (n, ((pre.length + 1 : Nat) : Int), 0) := by
        by_cases h1 : 1 ≤ j
        · exact Ev.pos (by omega) (Ev.neg (by omega) (Ev.now _))
        · exact Ev.neg (by omega) (Ev.now _)
      by_cases h9' : j = 9
      · exact Ev.pos (by omega) (Ev.neg (by omega) last)
      · exact Ev.neg (by omega) last
    · rw [if_pos (g2 hc)]
      by_cases h9 : j = 9
      · have hd : d = 0 := g6 h9
        subst hd
        simp only [e7, ej]
        clear ew e7 es ej
        show Ev _ ((0 : Int), (0 : Int), (3 : Int))
        refine Ev.neg (by rw [hl]; omega) (Ev.pos (by omega) (Ev.pos (by rw [hl]; omega) (Ev.pos (by omega) (Ev.pos (by omega) ?_))))
        exact Ev.step (fun k => by rw [codec_Int.l0]) (Ev.neg (by omega) (Ev.now _))
      · have h8 := pow_eight (j := j) (by clear ew e7 es ej; omega)
        have h5 : x % 128 * 2 ^ (7 * j) ≤ 127 * 2 ^ (7 * j) := Nat.mul_le_mul_right _ (by clear ew e7 es ej; omega)
        have hpart := part_is (x := x) (v := x % 128) (u := u) (j := j) (Nat.le_refl _) hx8 hu hj (by clear ew e7 es ej; omega)
        rw [hpart]
        simp only [e7, ej]
        clear hpart e7 ej es ew
        refine Ev.neg (by rw [hl]; omega) (Ev.pos (by omega) (Ev.pos (by rw [hl]; omega) (Ev.pos (by omega) (Ev.pos (by omega) ?_))))
        have hpow := pow_seven j
        have ih := cint_loop at_ hat d (j + 1) (by omega) (pre ++ [(x : Int)]) rest (u + x % 128 * 2 ^ (7 * j)) (by rw [List.length_append, List.length_singleton]; omega) (by rw [hpow]; omega) (fun y hy => hr y (List.mem_cons_of_mem _ hy))
        rw [List.append_assoc, List.singleton_append] at ih
        exact ih
theorem part_add {x u j : Nat} (hj : j ≤ 9) (h : u + x % 128 * 2 ^ (7 * j) < 18446744073709551616) : IntKind.u64.wrap ((u : Int) + shl .u64 (IntKind.u64.wrap (Int.tmod (x : Int) 128)) (wrap64 (7 * (j : Int)))) = ((u + x % 128 * 2 ^ (7 * j) : Nat) : Int) := by
  have e0 : Int.tmod (x : Int) 128 = ((x % 128 : Nat) : Int) := rfl
  have e1 := w_sevn hj
  have e2 : IntKind.u64.wrap ((x % 128 : Nat) : Int) = ((x % 128 : Nat) : Int) := by rw [wu64]; omega
  rw [e0, e1, e2]
  unfold shl
  have e3 : min ((7 * j : Nat) : Int).toNat IntKind.u64.bits = 7 * j := by
    have : IntKind.u64.bits = 64 := rfl
    rw [this]
    omega
  rw [e3]
  have e4 : ((x % 128 : Nat) : Int) * 2 ^ (7 * j) = ((x % 128 * 2 ^ (7 * j) : Nat) : Int) := by push_cast; rfl
  rw [e4, wu64, wu64]
  clear e1 e2 e3 e4
  generalize x % 128 * 2 ^ (7 * j) = q at *
  omega
theorem unfolded_is {u : Nat} (h : u < 18446744073709551616) : shapesearchref03_unfolded.f (u : Int) = some (unf u) := by
  have e1 : Int.tmod (u : Int) 2 = ((u % 2 : Nat) : Int) := rfl
  have e2 : Int.tdiv (u : Int) 2 = ((u / 2 : Nat) : Int) := rfl
  have e3 : IntKind.u64.wrap ((u / 2 : Nat) : Int) = ((u / 2 : Nat) : Int) := by rw [wu64]; omega
  have e4 : wrap64 ((u / 2 : Nat) : Int) = ((u / 2 : Nat) : Int) := w64 (by omega) (by omega)
  have e5 : wrap64 (-((u / 2 : Nat) : Int)) = -((u / 2 : Nat) : Int) := w64 (by omega) (by omega)
  have e6 : wrap64 (-((u / 2 : Nat) : Int) - 1) = -((u / 2 : Nat) : Int) - 1 := w64 (by omega) (by omega)
  unfold shapesearchref03_unfolded.f unf
  rw [e1, e2, e3, e4, e5, e6]
  by_cases c : u % 2 = 0
  · rw [if_pos (show ((u % 2 : Nat) : Int) = 0 by omega), if_pos c]
  · rw [if_neg (show ¬ ((u % 2 : Nat) : Int) = 0 by omega), if_neg c]
theorem rint_loop (at_ : Nat) (hat : at_ ≤ 900) :
    ∀ (d j : Nat), j + d = 10 → ∀ (pre rest : List Int) (u : Nat), pre.length = at_ + j → u < 2 ^ (7 * j) → (∀ x ∈ rest, 0 ≤ x ∧ x ≤ 255) →
      Ev (fun k => shapesearchref03_Int.l0 k (pre ++ rest) (at_ : Int) (u : Int) (j : Int)) (place at_ (rdN d rest u j))
  | 0, j, hj, pre, rest, u, hp, hu, hr => by
    show Ev _ ((0 : Int), (0 : Int), (3 : Int))
    exact Ev.step (fun k => by rw [shapesearchref03_Int.l0]) (Ev.neg (by omega) (Ev.now _))
  | d + 1, j, hjd, pre, [], u, hp, hu, hr => by
    show Ev _ ((0 : Int), (0 : Int), (2 : Int))
    have hb : pre.length ≤ 1000 := by omega
    have ew := w_addn hp hb
    refine Ev.step (fun k => by rw [shapesearchref03_Int.l0]) (Ev.pos (by omega) ?_)
    rw [ew, List.append_nil]
    exact Ev.pos (by omega) (Ev.now _)
  | d + 1, j, hjd, pre, c :: rest, u, hp, hu, hr => by
    have hj : j ≤ 9 := by omega
    have hb : pre.length ≤ 1000 := by omega
    have hc := hr c (List.mem_cons_self ..)
    obtain ⟨x, rfl⟩ := Int.eq_ofNat_of_zero_le hc.1
    have hx8 : x < 256 := by omega
    have hl : (pre ++ (x : Int) :: rest).length = pre.length + 1 + rest.length := by simp; omega
    have er : rdN (d + 1) ((x : Int) :: rest) u j = if 128 ≤ (x : Int) then rdN d rest (u + x % 128 * 2 ^ (7 * j)) (j + 1) else (if (j = 9 ∧ 1 < (x : Int)) ∨ (0 < j ∧ (x : Int) = 0) then (0, 0, 3) else (unf (u + x * 2 ^ (7 * j)), j + 1, 0)) := rfl
    rw [er]
    clear er
    have g1 : x < 128 → ¬ 128 ≤ (x : Int) := fun h => by omega
    have g2 : ¬ x < 128 → 128 ≤ (x : Int) := fun h => by omega
    have g3 : (j = 9 ∧ 1 < x) → ((j = 9 ∧ 1 < (x : Int)) ∨ (0 < j ∧ (x : Int) = 0)) := fun h => by omega
    have g4 : (1 ≤ j ∧ x = 0) → ((j = 9 ∧ 1 < (x : Int)) ∨ (0 < j ∧ (x : Int) = 0)) := fun h => by omega
    have g5 : ¬ (j = 9 ∧ 1 < x) → ¬ (1 ≤ j ∧ x = 0) → ¬ ((j = 9 ∧ 1 < (x : Int)) ∨ (0 < j ∧ (x : Int) = 0)) := fun h h' => by omega
    have g6 : j = 9 → d = 0 := fun h => by omega
    have g7 : (j : Int) < 10 := by omega
    have ew := w_addn hp hb
    have e7 := w_sevn hj
    have es := w_succ (i := pre.length) (Nat.lt_of_le_of_lt hb (by decide))
    have ej := w_succ (i := j) (Nat.lt_of_le_of_lt hj (by decide))
    have key : ∀ f : Bool, (f = true ↔ j = 9 ∧ 1 < x) → Ev (fun k => shapesearchref03_Int.j2 k (pre ++ (x : Int) :: rest) (at_ : Int) (u : Int) (j : Int) (x : Int) f) (place at_ (if 128 ≤ (x : Int) then rdN d rest (u + x % 128 * 2 ^ (7 * j)) (j + 1) else (if (j = 9 ∧ 1 < (x : Int)) ∨ (0 < j ∧ (x : Int) = 0) then (0, 0, 3) else (unf (u + x * 2 ^ (7 * j)), j + 1, 0)))) := by
      intro f hf
      refine Ev.step (fun k => by rw [shapesearchref03_Int.j2]) ?_
      by_cases h9 : j = 9 ∧ 1 < x
      · refine Ev.pos (hf.2 h9) ?_
        clear ew e7 es ej
        by_cases hc : x < 128
        · rw [if_neg (show ¬ 128 ≤ (x : Int) by omega), if_pos (show (j = 9 ∧ 1 < (x : Int)) ∨ (0 < j ∧ (x : Int) = 0) by omega)]
          show Ev _ ((0 : Int), (0 : Int), (3 : Int))
          exact Ev.now _
        · have hd : d = 0 := g6 h9.1
          subst hd
          rw [if_pos (show 128 ≤ (x : Int) by omega)]
          show Ev _ ((0 : Int), (0 : Int), (3 : Int))
          exact Ev.now _
      refine Ev.neg (fun h => h9 (hf.1 h)) ?_
      refine Ev.pos (by rw [e7]; exact Int.natCast_nonneg _) ?_
      have hle : u + x % 128 * 2 ^ (7 * j) < 18446744073709551616 := by
        clear ew e7 es ej
        by_cases h9' : j = 9
        · subst h9'
          have e9 : (2 : Nat) ^ (7 * 9) = 9223372036854775808 := by decide
          rw [e9] at hu ⊢
          omega
        · have h8 := pow_eight (j := j) (by omega)
          have h5 : x % 128 * 2 ^ (7 * j) ≤ 127 * 2 ^ (7 * j) := Nat.mul_le_mul_right _ (by omega)
          omega
      rw [part_add hj hle, unfolded_is hle, ew, es, ej]
      clear ew e7 es ej
      by_cases hc : x < 128
      · refine Ev.pos (by omega) ?_
        rw [if_neg (show ¬ 128 ≤ (x : Int) by omega), Nat.mod_eq_of_lt hc]
        have fin : ∀ v : Int, place at_ (v, j + 1, 0) = (v, ((pre.length + 1 : Nat) : Int), 0) := fun v => by rw [hp]; rfl
        by_cases h0 : x = 0
        · by_cases h1 : 1 ≤ j
          · rw [if_pos (show (j = 9 ∧ 1 < (x : Int)) ∨ (0 < j ∧ (x : Int) = 0) by omega)]
            show Ev _ ((0 : Int), (0 : Int), (3 : Int))
            exact Ev.pos (by omega) (Ev.pos (by omega) (Ev.now _))
          · rw [if_neg (show ¬ ((j = 9 ∧ 1 < (x : Int)) ∨ (0 < j ∧ (x : Int) = 0)) by omega), fin]
            exact Ev.pos (by omega) (Ev.neg (by omega) (Ev.bind (Ev.now _) (Ev.now _)))
        · rw [if_neg (show ¬ ((j = 9 ∧ 1 < (x : Int)) ∨ (0 < j ∧ (x : Int) = 0)) by omega), fin]
          exact Ev.neg (by omega) (Ev.bind (Ev.now _) (Ev.now _))
      · refine Ev.neg (by omega) ?_
        rw [if_pos (show 128 ≤ (x : Int) by omega)]
        have hj9 : j ≠ 9 := by omega
        have h8 := pow_eight (j := j) (by omega)
        have h5 : x % 128 * 2 ^ (7 * j) ≤ 127 * 2 ^ (7 * j) := Nat.mul_le_mul_right _ (by omega)
        have hpow := pow_seven j
        have ih := rint_loop at_ hat d (j + 1) (by omega) (pre ++ [(x : Int)]) rest (u + x % 128 * 2 ^ (7 * j)) (by rw [List.length_append, List.length_singleton]; omega) (by rw [hpow]; omega) (fun y hy => hr y (List.mem_cons_of_mem _ hy))
        rw [List.append_assoc, List.singleton_append] at ih
        exact ih
    refine Ev.step (fun k => by rw [shapesearchref03_Int.l0]) (Ev.pos g7 ?_)
    rw [ew, rd_mid]
    refine Ev.neg (by rw [hl]; clear ew e7 es ej; omega) (Ev.pos (by clear ew e7 es ej; omega) (Ev.pos (by rw [hl]; clear ew e7 es ej; omega) ?_))
    by_cases h9 : j = 9
    · exact Ev.pos (by clear ew e7 es ej; omega) (key _ (by rw [decide_eq_true_iff]; clear ew e7 es ej; omega))
    · exact Ev.neg (by clear ew e7 es ej; omega) (key _ (by simp [h9]))
theorem cint_is (b : List Int) (hb : ∀ x ∈ b, 0 ≤ x ∧ x ≤ 255) (i : Nat) (hi : i ≤ b.length) (hi9 : i ≤ 900) : Ev (fun k => codec_Int.f k b (i : Int)) (place i (rdN 10 (b.drop i) 0 0)) := by
  unfold codec_Int.f
  refine Ev.neg (by omega) ?_
  have e : decide ((i : Int) > (b.length : Int)) = false := decide_eq_false (by omega)
  rw [e]
  refine Ev.step (fun k => by rw [codec_Int.j0]) (Ev.neg (by decide) ?_)
  have hlt : (b.take i).length = i := by rw [List.length_take]; omega
  have h := cint_loop i hi9 10 0 rfl (b.take i) (b.drop i) 0 (by rw [hlt]; rfl) (by decide) (fun x hx => hb x (List.mem_of_mem_drop hx))
  rw [List.take_append_drop] at h
  exact h
theorem rint_is (b : List Int) (hb : ∀ x ∈ b, 0 ≤ x ∧ x ≤ 255) (i : Nat) (hi : i ≤ b.length) (hi9 : i ≤ 900) : Ev (fun k => shapesearchref03_Int.f k b (i : Int)) (place i (rdN 10 (b.drop i) 0 0)) := by
  unfold shapesearchref03_Int.f
  refine Ev.neg (by omega) ?_
  have e : decide ((i : Int) > (b.length : Int)) = false := decide_eq_false (by omega)
  rw [e]
  refine Ev.step (fun k => by rw [shapesearchref03_Int.j0]) (Ev.neg (by decide) ?_)
  have hlt : (b.take i).length = i := by rw [List.length_take]; omega
  have h := rint_loop i hi9 10 0 rfl (b.take i) (b.drop i) 0 (by rw [hlt]; rfl) (by decide) (fun x hx => hb x (List.mem_of_mem_drop hx))
  rw [List.take_append_drop] at h
  exact h
/-! ### both readers of packets -/
def okV (x y : Int) : Bool := decide (0 ≤ x ∧ x ≤ 1099511627776 ∧ -1000 ≤ y ∧ y ≤ 1000)
theorem okV_iff (x y : Int) : okV x y = true ↔ 0 ≤ x ∧ x ≤ 1099511627776 ∧ -1000 ≤ y ∧ y ≤ 1000 := decide_eq_true_iff
theorem pvalid_is (x y : Int) : packet_valid.f x y = some (okV x y) := by
  obtain ⟨v, h1, h2⟩ := valid_any x y
  rw [h1]
  congr 1
  rw [Bool.eq_iff_iff, h2, okV_iff]
  exact Iff.rfl
theorem rvalid_is (x y : Int) : shapesearchref05_Valid.f x y = some (okV x y) := by
  unfold shapesearchref05_Valid.f shapesearchref04_Sample.f okV
  by_cases h1 : x ≥ 0
  · rw [if_pos h1]
    by_cases h2 : x ≤ 1099511627776
    · rw [if_pos h2]
      by_cases h3 : y ≥ -1000
      · rw [if_pos h3]
        simp only [Option.bind_some]
        congr 1
        by_cases h4 : y ≤ 1000
        · rw [decide_eq_true h4, decide_eq_true ⟨h1, h2, h3, h4⟩]
        · rw [decide_eq_false h4, decide_eq_false (fun h => h4 h.2.2.2)]
      · rw [if_neg h3, decide_eq_false (fun h => h3 h.2.2.1)]
        rfl
    · rw [if_neg h2, decide_eq_false (fun h => h2 h.2.1)]
  · rw [if_neg h1, decide_eq_false (fun h => h1 h.1)]
def decS : Nat → List Int → Int → Int → List S25 → List S25 × Int
  | 0, s, _, _, out => if s = [] then (out, 0) else ([], 3)
  | d + 1, s, p, q, out =>
    if (rdN 10 s 0 0).2.2 = 0 then
      (if (rdN 10 (s.drop (rdN 10 s 0 0).2.1) 0 0).2.2 = 0 then
        (if okV (p + (rdN 10 s 0 0).1) (q + (rdN 10 (s.drop (rdN 10 s 0 0).2.1) 0 0).1) = true then
          decS d ((s.drop (rdN 10 s 0 0).2.1).drop (rdN 10 (s.drop (rdN 10 s 0 0).2.1) 0 0).2.1) (p + (rdN 10 s 0 0).1) (q + (rdN 10 (s.drop (rdN 10 s 0 0).2.1) 0 0).1) (out ++ [⟨p + (rdN 10 s 0 0).1, q + (rdN 10 (s.drop (rdN 10 s 0 0).2.1) 0 0).1⟩])
        else ([], 1))
      else ([], (rdN 10 (s.drop (rdN 10 s 0 0).2.1) 0 0).2.2))
    else ([], (rdN 10 s 0 0).2.2)
theorem decS_eq (d : Nat) (s : List Int) (p q : Int) (out : List S25) (t u : Int × Nat × Int) (ht : t = rdN 10 s 0 0) (hu : u = rdN 10 (s.drop t.2.1) 0 0) :
    decS (d + 1) s p q out = if t.2.2 = 0 then (if u.2.2 = 0 then (if okV (p + t.1) (q + u.1) = true then decS d ((s.drop t.2.1).drop u.2.1) (p + t.1) (q + u.1) (out ++ [⟨p + t.1, q + u.1⟩]) else ([], 1)) else ([], u.2.2)) else ([], t.2.2) := by
  subst ht
  subst hu
  rfl
theorem decS_len : ∀ (d : Nat) (s : List Int) (p q : Int) (out : List S25), (decS d s p q out).1.length ≤ out.length + d
  | 0, s, p, q, out => by
    unfold decS
    split
    · exact Nat.le_refl _
    · exact Nat.zero_le _
  | d + 1, s, p, q, out => by
    rw [decS_eq d s p q out _ _ rfl rfl]
    split
    · split
      · split
        · refine Nat.le_trans (decS_len d _ _ _ _) ?_
          rw [List.length_append, List.length_singleton]
          omega
        · exact Nat.zero_le _
      · exact Nat.zero_le _
    · exact Nat.zero_le _
theorem near_same {p d : Int} (p1 : -1000 ≤ p) (p2 : p ≤ 1099511627776) : ∃ x, packet_near.f p d = some x ∧ (x = p + d ∨ ((x < -1000 ∨ 1099511627776 < x) ∧ (p + d < -1000 ∨ 1099511627776 < p + d))) := by
  by_cases h : -4398046511104 ≤ d ∧ d ≤ 4398046511104
  · exact ⟨_, near_is (by omega) (by omega) h.1 h.2, .inl rfl⟩
  · obtain ⟨x, hx, hf⟩ := near_far (p := p) (d := d) (by omega) (by omega) h
    exact ⟨x, hx, .inr ⟨by omega, by omega⟩⟩
theorem pdec_loop (b : List Int) (hb : ∀ x ∈ b, 0 ≤ x ∧ x ≤ 255) (hl : b.length ≤ 900) (n : Nat) (hn : n ≤ 2000) (d : Nat) :
    ∀ (i p0 : Nat) (p q : Int) (out : List S25), i + d = n → p0 ≤ b.length → 0 ≤ p → p ≤ 1099511627776 → -1000 ≤ q → q ≤ 1000 → out.length = i →
      Ev (fun k => packet_Decode.l0 k b (n : Int) (i : Int) (p0 : Int) p q out) (decS d (b.drop p0) p q out) := by
  induction d with
  | zero =>
    intro i p0 p q out hi hp p1 p2 q1 q2 ho
    show Ev _ (if b.drop p0 = [] then (out, (0 : Int)) else ([], 3))
    refine Ev.step (fun k => by rw [packet_Decode.l0]) (Ev.neg (by omega) ?_)
    by_cases h : p0 = b.length
    · rw [if_pos (List.drop_eq_nil_of_le (by omega))]
      exact Ev.pos (by omega) (Ev.now _)
    · rw [if_neg (show ¬ b.drop p0 = [] by rw [List.drop_eq_nil_iff]; omega)]
      exact Ev.neg (by omega) (Ev.now _)
  | succ d ih =>
    intro i p0 p q out hi hp p1 p2 q1 q2 ho
    have h1 := cint_is b hb p0 hp (by omega)
    obtain ⟨t, ht⟩ : ∃ t, t = rdN 10 (b.drop p0) 0 0 := ⟨_, rfl⟩
    obtain ⟨u, hu⟩ : ∃ u, u = rdN 10 ((b.drop p0).drop t.2.1) 0 0 := ⟨_, rfl⟩
    rw [decS_eq d _ p q out t u ht hu]
    have tb := rdN_ok 10 (b.drop p0) 0 0
    rw [← ht] at h1 tb
    rw [List.length_drop] at tb
    refine Ev.step (fun k => by rw [packet_Decode.l0]) (Ev.pos (by omega) (Ev.bind h1 ?_))
    by_cases t0 : t.2.2 = 0
    · rw [if_pos t0, place_ok t0]
      have tb := tb t0
      refine Ev.pos rfl ?_
      have h2 := cint_is b hb (p0 + t.2.1) (by omega) (by omega)
      have ub := rdN_ok 10 (b.drop (p0 + t.2.1)) 0 0
      rw [← List.drop_drop, ← hu] at h2 ub
      rw [List.length_drop, List.length_drop] at ub
      refine Ev.bind h2 ?_
      by_cases u0 : u.2.2 = 0
      · rw [if_pos u0, place_ok u0]
        have ub := ub u0
        refine Ev.pos rfl ?_
        dsimp only
        obtain ⟨x, hx, hx'⟩ := near_same (p := p) (d := t.1) (by omega) p2
        obtain ⟨y, hy, hy'⟩ := near_same (p := q) (d := u.1) q1 (by omega)
        rw [hx, hy]
        simp only [Option.bind_some]
        rw [pvalid_is]
        simp only [Option.bind_some]
        by_cases hv : okV (p + t.1) (q + u.1) = true
        · rw [if_pos hv]
          have hV := (okV_iff _ _).1 hv
          have ex : x = p + t.1 := by omega
          have ey : y = q + u.1 := by omega
          subst ex
          subst ey
          rw [w_succ (by omega), List.drop_drop, List.drop_drop]
          exact Ev.pos hv (Ev.pos (by omega) (by
            have := ih (i + 1) (p0 + t.2.1 + u.2.1) (p + t.1) (q + u.1) (out ++ [⟨p + t.1, q + u.1⟩]) (by omega) (by omega) hV.1 hV.2.1 hV.2.2.1 hV.2.2.2 (by rw [List.length_append, List.length_singleton]; omega)
            rw [Nat.add_assoc] at this
            rw [Nat.add_assoc]
            exact this))
        · rw [if_neg hv]
          refine Ev.neg (fun h => hv ?_) (Ev.now _)
          have hV := (okV_iff _ _).1 h
          rw [okV_iff]
          omega
      · rw [if_neg u0]
        refine Ev.neg (by rw [place_err]; exact u0) ?_
        rw [place_err]
        exact Ev.now _
    · rw [if_neg t0]
      refine Ev.neg (by rw [place_err]; exact t0) ?_
      rw [place_err]
      exact Ev.now _
theorem far_is (a : Int) : shapesearchref06_far.f a = some (decide (2199023255552 < a ∨ a < -2199023255552)) := by
  unfold shapesearchref06_far.f
  by_cases h : a > 2199023255552
  · rw [if_pos h, decide_eq_true (.inl h)]
  · rw [if_neg h]
    congr 1
    by_cases h2 : a < -2199023255552
    · rw [decide_eq_true h2, decide_eq_true (.inr h2)]
    · rw [decide_eq_false h2, decide_eq_false (by omega)]
theorem rdec_loop (b : List Int) (hb : ∀ x ∈ b, 0 ≤ x ∧ x ≤ 255) (hl : b.length ≤ 900) (n : Nat) (hn : n ≤ 2000) (d : Nat) :
    ∀ (i p0 : Nat) (p q : Int) (out : List S25), i + d = n → p0 ≤ b.length → 0 ≤ p → p ≤ 1099511627776 → -1000 ≤ q → q ≤ 1000 → out.length = i →
      Ev (fun k => shapesearchref06_Decode.l0 k b (n : Int) (p0 : Int) out (i : Int) p q) (decS d (b.drop p0) p q out) := by
  induction d with
  | zero =>
    intro i p0 p q out hi hp p1 p2 q1 q2 ho
    show Ev _ (if b.drop p0 = [] then (out, (0 : Int)) else ([], 3))
    refine Ev.step (fun k => by rw [shapesearchref06_Decode.l0]) (Ev.neg (by omega) ?_)
    by_cases h : p0 = b.length
    · rw [if_pos (List.drop_eq_nil_of_le (by omega))]
      exact Ev.pos (by omega) (Ev.now _)
    · rw [if_neg (show ¬ b.drop p0 = [] by rw [List.drop_eq_nil_iff]; omega)]
      exact Ev.neg (by omega) (Ev.now _)
  | succ d ih =>
    intro i p0 p q out hi hp p1 p2 q1 q2 ho
    have h1 := rint_is b hb p0 hp (by omega)
    obtain ⟨t, ht⟩ : ∃ t, t = rdN 10 (b.drop p0) 0 0 := ⟨_, rfl⟩
    obtain ⟨u, hu⟩ : ∃ u, u = rdN 10 ((b.drop p0).drop t.2.1) 0 0 := ⟨_, rfl⟩
    rw [decS_eq d _ p q out t u ht hu]
    have tb := rdN_ok 10 (b.drop p0) 0 0
    rw [← ht] at h1 tb
    rw [List.length_drop] at tb
    refine Ev.step (fun k => by rw [shapesearchref06_Decode.l0]) (Ev.pos (by omega) (Ev.bind h1 ?_))
    by_cases t0 : t.2.2 = 0
    · rw [if_pos t0, place_ok t0]
      have tb := tb t0
      refine Ev.pos rfl ?_
      have h2 := rint_is b hb (p0 + t.2.1) (by omega) (by omega)
      have ub := rdN_ok 10 (b.drop (p0 + t.2.1)) 0 0
      rw [← List.drop_drop, ← hu] at h2 ub
      rw [List.length_drop, List.length_drop] at ub
      refine Ev.bind h2 ?_
      by_cases u0 : u.2.2 = 0
      · rw [if_pos u0, place_ok u0]
        have ub := ub u0
        refine Ev.pos rfl ?_
        dsimp only
        rw [far_is, far_is]
        simp only [Option.bind_some]
        have key : ∀ f : Bool, (f = true ↔ ((2199023255552 < t.1 ∨ t.1 < -2199023255552) ∨ (2199023255552 < u.1 ∨ u.1 < -2199023255552))) → Ev (fun k => shapesearchref06_Decode.j2 k b (n : Int) out (i : Int) t.1 u.1 ((p0 + t.2.1 + u.2.1 : Nat) : Int) f p q) (if okV (p + t.1) (q + u.1) = true then decS d (((b.drop p0).drop t.2.1).drop u.2.1) (p + t.1) (q + u.1) (out ++ [⟨p + t.1, q + u.1⟩]) else ([], 1)) := by
          intro f hf
          refine Ev.step (fun k => by rw [shapesearchref06_Decode.j2]) ?_
          by_cases hfar : (2199023255552 < t.1 ∨ t.1 < -2199023255552) ∨ (2199023255552 < u.1 ∨ u.1 < -2199023255552)
          · rw [if_neg (show ¬ okV (p + t.1) (q + u.1) = true from fun h => by have hV := (okV_iff _ _).1 h; omega)]
            exact Ev.pos (hf.2 hfar) (Ev.now _)
          · refine Ev.neg (fun h => hfar (hf.1 h)) ?_
            rw [w64 (n := p + t.1) (by omega) (by omega), w64 (n := q + u.1) (by omega) (by omega), rvalid_is]
            refine Ev.bind (Ev.now _) ?_
            by_cases hv : okV (p + t.1) (q + u.1) = true
            · rw [if_pos hv]
              have hV := (okV_iff _ _).1 hv
              rw [w_succ (by omega), List.drop_drop, List.drop_drop]
              exact Ev.pos hv (Ev.pos (by omega) (by
                have := ih (i + 1) (p0 + t.2.1 + u.2.1) (p + t.1) (q + u.1) (out ++ [⟨p + t.1, q + u.1⟩]) (by omega) (by omega) hV.1 hV.2.1 hV.2.2.1 hV.2.2.2 (by rw [List.length_append, List.length_singleton]; omega)
                rw [Nat.add_assoc] at this
                rw [Nat.add_assoc]
                exact this))
            · rw [if_neg hv]
              exact Ev.neg hv (Ev.now _)
        by_cases hfar : 2199023255552 < t.1 ∨ t.1 < -2199023255552
        · exact Ev.pos (decide_eq_true hfar) (key true ⟨fun _ => .inl hfar, fun _ => rfl⟩)
        · exact Ev.neg (by rw [decide_eq_true_iff]; exact hfar) (key _ (by rw [decide_eq_true_iff]; exact ⟨fun h => .inr h, fun h => h.resolve_left hfar⟩))
      · rw [if_neg u0]
        refine Ev.neg (by rw [place_err]; exact u0) ?_
        rw [place_err]
        exact Ev.now _
    · rw [if_neg t0]
      refine Ev.neg (by rw [place_err]; exact t0) ?_
      rw [place_err]
      exact Ev.now _
/-! ### both sides read the same -/
theorem refsealed_is (l : List Int) (hb : bts l) (hl : l.length ≤ 1000000) : Ev (fun k => shapesearchref03_Sealed.f k l) (sealB l) := by
  unfold shapesearchref03_Sealed.f
  refine Ev.bind (refsum_is l hb hl) (Ev.bind (Ev.now _) (Ev.pos (by rw [List.length_nil]; omega) ?_))
  rw [List.nil_append]
  exact Ev.bind (Ev.now _) (Ev.bind (Ev.now _) (Ev.pos (by simp; omega) (Ev.now _)))
theorem intact_is (l : List Int) (hb : bts l) (h7 : 7 ≤ l.length) (hl : l.length ≤ 900) : Ev (fun k => shapesearchref03_Intact.f k l) (packet_Decode.sums l) := by
  have ew : wrap64 ((l.length : Int) - 4) = (l.length : Int) - 4 := w64 (by omega) (by omega)
  have et : ((l.length : Int) - 4).toNat = l.length - 4 := by omega
  unfold shapesearchref03_Intact.f
  rw [ew, et]
  have hb' : bts (l.take (l.length - 4)) := fun x hx => hb x (List.mem_of_mem_take hx)
  refine Ev.pos (by omega) (Ev.pos (by omega) (Ev.pos (by omega) (Ev.bind (refsealed_is _ hb' (by rw [List.length_take]; omega)) ?_)))
  have e : ((strOfNums (sealB (l.take (l.length - 4)))).toList == (strOfNums l).toList) = packet_Decode.sums l := by
    rw [Bool.eq_iff_iff, beq_iff_eq]
    constructor
    · intro h
      have h1 := str_inj (sealB_bts hb') hb h
      rw [← h1]
      exact sums_seal _
    · intro h
      rw [← seal_of l (by omega) h]
  rw [e]
  exact Ev.now _
theorem both_dec (l : List Int) (hb : bts l) (hl : l.length ≤ 900) : ∃ r : List S25 × Int, Ev (fun k => packet_Decode.f k l) r ∧ Ev (fun k => shapesearchref06_Decode.f k l) r ∧ r.1.length ≤ 2000 := by
  have ew : wrap64 ((l.length : Int) - 4) = (l.length : Int) - 4 := w64 (by omega) (by omega)
  have et : ((l.length : Int) - 4).toNat = l.length - 4 := by omega
  have hin : packet_Decode.in_ l = (l.take (l.length - 4)).drop 3 := by
    unfold packet_Decode.in_
    rw [et]
    rfl
  unfold packet_Decode.f shapesearchref06_Decode.f
  rw [ew, et, hin]
  by_cases h7 : l.length < 7
  · exact ⟨([], 2), Ev.pos h7 (Ev.now _), Ev.pos (by omega) (Ev.now _), Nat.zero_le _⟩
  by_cases h3 : (strOfNums (l.take 3)).toList = [84, 83, 49]
  · have hI := intact_is l hb (by omega) hl
    by_cases hs : packet_Decode.sums l = true
    · rw [hs] at hI
      have hbt : bts (l.take (l.length - 4)) := fun x hx => hb x (List.mem_of_mem_take hx)
      have hlt : (l.take (l.length - 4)).length = l.length - 4 := by rw [List.length_take]; omega
      generalize l.take (l.length - 4) = c at *
      have hbd : bts (c.drop 3) := fun x hx => hbt x (List.mem_of_mem_drop hx)
      have hld : (c.drop 3).length = l.length - 7 := by rw [List.length_drop]; omega
      have c1 := cint_is (c.drop 3) hbd 0 (by omega) (by omega)
      have c2 := rint_is c hbt 3 (by omega) (by omega)
      rw [List.drop_zero] at c1
      obtain ⟨t, ht⟩ : ∃ t, t = rdN 10 (c.drop 3) 0 0 := ⟨_, rfl⟩
      have tb := rdN_ok 10 (c.drop 3) 0 0
      rw [← ht] at c1 c2 tb
      by_cases t0 : t.2.2 = 0
      · have tb := tb t0
        rw [place_ok t0] at c1 c2
        by_cases hn : t.1 < 0 ∨ 2000 < t.1
        · refine ⟨([], 4), Ev.neg h7 (Ev.pos (by omega) (Ev.pos h3 (Ev.pos hs (Ev.bind c1 (Ev.pos rfl (Ev.pos hn (Ev.now _))))))), Ev.neg (by omega) (Ev.pos (by omega) (Ev.pos h3 (Ev.bind hI (Ev.pos rfl (Ev.pos (by omega) (Ev.pos (by omega) (Ev.bind c2 (Ev.pos rfl ?_)))))))), Nat.zero_le _⟩
          dsimp only
          by_cases hn1 : t.1 < 0
          · exact Ev.pos hn1 (Ev.step (fun k => by rw [shapesearchref06_Decode.j0]) (Ev.pos rfl (Ev.now _)))
          · refine Ev.neg hn1 ?_
            rw [decide_eq_true (show t.1 > 2000 by omega)]
            exact Ev.step (fun k => by rw [shapesearchref06_Decode.j0]) (Ev.pos rfl (Ev.now _))
        · obtain ⟨n, hn'⟩ := Int.eq_ofNat_of_zero_le (show 0 ≤ t.1 by omega)
          have hn2 : n ≤ 2000 := by omega
          have d1 := pdec_loop (c.drop 3) hbd (by omega) n hn2 n 0 (0 + t.2.1) 0 0 [] (by omega) (by omega) (by omega) (by omega) (by omega) (by omega) rfl
          have d2 := rdec_loop c hbt (by omega) n hn2 n 0 (3 + t.2.1) 0 0 [] (by omega) (by omega) (by omega) (by omega) (by omega) (by omega) rfl
          rw [List.drop_drop, show 3 + (0 + t.2.1) = 3 + t.2.1 by omega] at d1
          refine ⟨decS n (c.drop (3 + t.2.1)) 0 0 [], Ev.neg h7 (Ev.pos (by omega) (Ev.pos h3 (Ev.pos hs (Ev.bind c1 (Ev.pos rfl (Ev.neg hn ?_)))))), Ev.neg (by omega) (Ev.pos (by omega) (Ev.pos h3 (Ev.bind hI (Ev.pos rfl (Ev.pos (by omega) (Ev.pos (by omega) (Ev.bind c2 (Ev.pos rfl ?_)))))))), Nat.le_trans (decS_len _ _ _ _ _) (by rw [List.length_nil]; omega)⟩
          · dsimp only
            rw [hn']
            exact d1
          · dsimp only
            refine Ev.neg (by omega) ?_
            rw [decide_eq_false (show ¬ t.1 > 2000 by omega), hn']
            refine Ev.step (fun k => by rw [shapesearchref06_Decode.j0]) (Ev.neg (by decide) ?_)
            exact d2
      · refine ⟨([], t.2.2), Ev.neg h7 (Ev.pos (by omega) (Ev.pos h3 (Ev.pos hs (Ev.bind c1 (Ev.neg (by rw [place_err]; exact t0) ?_))))), Ev.neg (by omega) (Ev.pos (by omega) (Ev.pos h3 (Ev.bind hI (Ev.pos rfl (Ev.pos (by omega) (Ev.pos (by omega) (Ev.bind c2 (Ev.neg (by rw [place_err]; exact t0) ?_)))))))), Nat.zero_le _⟩
        · rw [place_err]
          exact Ev.now _
        · rw [place_err]
          exact Ev.now _
    · exact ⟨([], 5), Ev.neg h7 (Ev.pos (by omega) (Ev.pos h3 (Ev.neg hs (Ev.now _)))), Ev.neg (by omega) (Ev.pos (by omega) (Ev.pos h3 (Ev.bind hI (Ev.neg hs (Ev.now _))))), Nat.zero_le _⟩
  · exact ⟨([], 3), Ev.neg h7 (Ev.pos (by omega) (Ev.neg h3 (Ev.now _))), Ev.neg (by omega) (Ev.pos (by omega) (Ev.neg h3 (Ev.now _))), Nat.zero_le _⟩
/-! ### both sides write the same -/
theorem Encode_bad (x4 : List Int) (l : List S25) (hl : l.length ≤ 2000) (d : Nat) :
    ∀ (i : Nat) (x6 : List Int) (p q : Int), i + d = l.length → x6.length ≤ 20 * i → 0 ≤ p → p ≤ 1099511627776 → -1000 ≤ q → q ≤ 1000 → (∃ r ∈ l.drop i, ¬ Vrd r) →
      Ev (fun k => packet_Encode.l0 k x4 x6 l (l.length : Int) (i : Int) p q) ([], 1) := by
  induction d with
  | zero =>
    intro i x6 p q hi h6 p0 p1 q0 q1 hx
    rw [show l.drop i = [] from List.drop_eq_nil_of_le (by omega)] at hx
    obtain ⟨r, hr, _⟩ := hx
    cases hr
  | succ d ih =>
    intro i x6 p q hi h6 p0 p1 q0 q1 hx
    have hlt : i < l.length := by omega
    have hi1 : i + 1 + d = l.length := by omega
    rw [List.drop_eq_getElem_cons hlt] at hx
    refine Ev.step (fun k => by rw [packet_Encode.l0]) (Ev.pos (by omega) (Ev.pos (by omega) (Ev.pos (by omega) ?_)))
    rw [rdT_nat l i hlt, pvalid_is, w_succ (by omega)]
    generalize l[i] = r at *
    refine Ev.bind (Ev.now _) ?_
    by_cases hv : okV r.f0 r.f1 = true
    · have hV := (okV_iff _ _).1 hv
      obtain ⟨h1, h2, h3, h5⟩ := hV
      have hx' : ∃ r ∈ l.drop (i + 1), ¬ Vrd r := by
        obtain ⟨s, hs, hs'⟩ := hx
        rcases List.mem_cons.1 hs with rfl | hs
        · exact absurd ⟨h1, h2, h3, h5⟩ hs'
        · exact ⟨s, hs, hs'⟩
      have a := encN_ten (foldN_lt (n := r.f0 - p) (by omega) (by omega))
      have b := encN_ten (foldN_lt (n := r.f1 - q) (by omega) (by omega))
      rw [w64 (n := r.f0 - p) (by omega) (by omega), w64 (n := r.f1 - q) (by omega) (by omega)]
      refine Ev.pos hv (Ev.bind (put_is (by omega) (by omega) [] (by simp)) (Ev.bind (put_is (by omega) (by omega) _ (by simp; omega)) ?_))
      rw [List.nil_append]
      refine Ev.pos (by rw [List.length_append]; omega) ?_
      exact ih (i + 1) _ r.f0 r.f1 hi1 (by rw [List.length_append, List.length_append]; omega) h1 h2 h3 h5 hx'
    · exact Ev.neg hv (Ev.now _)
theorem check_is (l : List S25) (hl : l.length ≤ 2000) : Ev (fun k => shapesearchref05_Check.f k l) (if l.all (fun r => okV r.f0 r.f1) = true then 0 else 1) := by
  have key : ∀ (d i : Nat), i + d = l.length → Ev (fun k => shapesearchref05_Check.l0 k l (l.length : Int) (i : Int)) (if (l.drop i).all (fun r => okV r.f0 r.f1) = true then 0 else 1) := by
    intro d
    induction d with
    | zero =>
      intro i hi
      rw [show l.drop i = [] from List.drop_eq_nil_of_le (by omega)]
      show Ev _ (0 : Int)
      exact Ev.step (fun k => by rw [shapesearchref05_Check.l0]) (Ev.neg (by omega) (Ev.now _))
    | succ d ih =>
      intro i hi
      have hlt : i < l.length := by omega
      have ih1 := ih (i + 1) (by omega)
      rw [List.drop_eq_getElem_cons hlt, List.all_cons]
      refine Ev.step (fun k => by rw [shapesearchref05_Check.l0]) (Ev.pos (by omega) (Ev.pos (by omega) (Ev.pos (by omega) ?_)))
      rw [rdT_nat l i hlt, rvalid_is, w_succ (by omega)]
      generalize l[i] = r at *
      refine Ev.bind (Ev.now _) ?_
      by_cases hv : okV r.f0 r.f1 = true
      · rw [hv, Bool.true_and]
        exact Ev.pos rfl ih1
      · have hv' : okV r.f0 r.f1 = false := by simpa using hv
        rw [hv', Bool.false_and]
        exact Ev.neg (by decide) (Ev.now _)
  unfold shapesearchref05_Check.f
  have := key l.length 0 (by omega)
  rw [List.drop_zero] at this
  exact Ev.neg (by omega) this
theorem refEncode_l0 (l : List S25) (hv : ∀ r ∈ l, Vrd r) (hl : l.length ≤ 2000) (d : Nat) :
    ∀ (i : Nat) (x5 : List Int) (p q : Int), i + d = l.length → bts x5 → x5.length ≤ 13 + 20 * i → 0 ≤ p → p ≤ 1099511627776 → -1000 ≤ q → q ≤ 1000 →
      Ev (fun k => shapesearchref06_Encode.l0 k l x5 p q (l.length : Int) (i : Int)) (sealB (x5 ++ encR p q (l.drop i)), 0) := by
  induction d with
  | zero =>
    intro i x5 p q hi hb h5 p0 p1 q0 q1
    rw [show l.drop i = [] from List.drop_eq_nil_of_le (by omega)]
    have e : encR p q [] = [] := rfl
    rw [e, List.append_nil]
    exact Ev.step (fun k => by rw [shapesearchref06_Encode.l0]) (Ev.neg (by omega) (Ev.bind (refsealed_is x5 hb (by omega)) (Ev.now _)))
  | succ d ih =>
    intro i x5 p q hi hb h5 p0 p1 q0 q1
    have hlt : i < l.length := by omega
    have hi1 : i + 1 + d = l.length := by omega
    have hr := hv l[i] (List.getElem_mem _)
    obtain ⟨h1, h2, h3, h4⟩ := hr
    refine Ev.step (fun k => by rw [shapesearchref06_Encode.l0]) (Ev.pos (by omega) (Ev.pos (by omega) (Ev.pos (by omega) ?_)))
    rw [rdT_nat l i hlt, List.drop_eq_getElem_cons hlt, w_succ (by omega)]
    generalize l[i] = r at *
    have a := encN_ten (foldN_lt (n := r.f0 - p) (by omega) (by omega))
    have b := encN_ten (foldN_lt (n := r.f1 - q) (by omega) (by omega))
    rw [w64 (n := r.f0 - p) (by omega) (by omega), w64 (n := r.f1 - q) (by omega) (by omega)]
    refine Ev.bind (refput_is (by omega) (by omega) x5 (by omega)) (Ev.bind (refput_is (by omega) (by omega) _ (by rw [List.length_append]; omega)) ?_)
    have := ih (i + 1) (x5 ++ encN (foldN (r.f0 - p)) ++ encN (foldN (r.f1 - q))) r.f0 r.f1 hi1 (fun x hx => by
      rcases List.mem_append.1 hx with h | h
      · rcases List.mem_append.1 h with h | h
        · exact hb x h
        · exact encN_bts _ _ (Nat.lt_succ_self _) x h
      · exact encN_bts _ _ (Nat.lt_succ_self _) x h) (by rw [List.length_append, List.length_append]; omega) h1 h2 h3 h4
    have e : encR p q (r :: l.drop (i + 1)) = encN (foldN (r.f0 - p)) ++ encN (foldN (r.f1 - q)) ++ encR r.f0 r.f1 (l.drop (i + 1)) := rfl
    rw [e, ← List.append_assoc, ← List.append_assoc]
    exact this
theorem refEncode_is (l : List S25) (hv : ∀ r ∈ l, Vrd r) (hl : l.length ≤ 2000) : Ev (fun k => shapesearchref06_Encode.f k l) (sealB (bodyB l), 0) := by
  have hall : l.all (fun r => okV r.f0 r.f1) = true := List.all_eq_true.2 (fun r hr => (okV_iff _ _).2 (hv r hr))
  have hc := check_is l hl
  rw [if_pos hall] at hc
  have a := encN_ten (foldN_lt (n := (l.length : Int)) (by omega) (by omega))
  unfold shapesearchref06_Encode.f
  refine Ev.bind hc (Ev.pos rfl (Ev.bind (refput_is (by omega) (by omega) _ (by simp)) ?_))
  have := refEncode_l0 l hv hl l.length 0 ([84, 83, 49] ++ encN (foldN (l.length : Int))) 0 0 (by omega) (fun x hx => by
    rcases List.mem_append.1 hx with h | h
    · simp only [List.mem_cons, List.not_mem_nil, or_false] at h
      omega
    · exact encN_bts _ _ (Nat.lt_succ_self _) x h) (by rw [List.length_append, show ([84, 83, 49] : List Int).length = 3 from rfl]; omega) (by omega) (by omega) (by omega) (by omega)
  rw [List.drop_zero] at this
  exact this
theorem both_enc (l : List S25) (hl : l.length ≤ 2000) : ∃ r : List Int × Int, Ev (fun k => packet_Encode.f k l) r ∧ Ev (fun k => shapesearchref06_Encode.f k l) r := by
  by_cases hv : ∀ r ∈ l, Vrd r
  · exact ⟨_, Encode_is l hv hl, refEncode_is l hv hl⟩
  · have hx : ∃ r ∈ l, ¬ Vrd r := Classical.byContradiction fun h => hv fun r hr => Classical.byContradiction fun h2 => h ⟨r, hr, h2⟩
    have a := encN_ten (foldN_lt (n := (l.length : Int)) (by omega) (by omega))
    refine ⟨([], 1), ?_, ?_⟩
    · unfold packet_Encode.f
      exact Ev.neg (by omega) (Ev.bind (put_is (by omega) (by omega) _ (by simp)) (Encode_bad _ l hl l.length 0 [] 0 0 (by omega) (by simp) (by omega) (by omega) (by omega) (by omega) (by rw [List.drop_zero]; exact hx)))
    · have hc := check_is l hl
      have hall : ¬ l.all (fun r => okV r.f0 r.f1) = true := fun h => by
        obtain ⟨r, hr, hr'⟩ := hx
        exact hr' ((okV_iff _ _).1 (List.all_eq_true.1 h r hr))
      rw [if_neg hall] at hc
      unfold shapesearchref06_Encode.f
      exact Ev.bind hc (Ev.neg (by decide) (Ev.now _))
/-! ### the law -/
theorem keep_Wrong (s : List Int) (a : Int) (l : List S25) (h : Src s a) (hl : l.length ≤ 1000) : EvP (fun _ => shapesearchkeep_Src_Wrong.f s a l) (fun r => Src s r.2 ∧ r.1.length ≤ l.length + 1) := by
  unfold shapesearchkeep_Src_Wrong.f
  refine EvP.bind1 (Ev.now _) (EvP.pos (by rw [List.length_nil]; omega) (EvP.bind1 (Ev.now _) ?_))
  rw [List.nil_append]
  refine EvP.ite (fun h0 => ?_) (fun h0 => ?_)
  · exact EvP.bind (keep_Pick s a [-1, 1099511627776, 1099511627777] h (by simp) (by simp)) (fun p hp => EvP.bind (keep_Pick s p.2 [0, 1001] hp.1 (by simp) (by simp)) (fun q hq => EvP.pos (by omega) (EvP.ret ⟨hq.1, by simp⟩)))
  · refine EvP.bind (keep_N s a l.length h (by omega) (by omega)) (fun i hi => EvP.bind (keep_N s i.2 3 hi.1 (by omega) (by omega)) (fun c hc => EvP.ite (fun _ => ?_) (fun _ => EvP.ite (fun _ => ?_) (fun _ => ?_))))
    · exact EvP.bind (keep_Pick s c.2 [-1, 0, 1099511627776, 1099511627777, 4611686018427387904, -9223372036854775808] hc.1 (by simp) (by simp)) (fun x hx => EvP.pos hi.2.1 (EvP.pos hi.2.2 (EvP.ret ⟨hx.1, by simp⟩)))
    · exact EvP.bind (keep_Pick s c.2 [1000, 1001, -1001, 9223372036854775807, -9223372036854775808] hc.1 (by simp) (by simp)) (fun x hx => EvP.pos hi.2.1 (EvP.pos hi.2.2 (EvP.ret ⟨hx.1, by simp⟩)))
    · exact EvP.pos hi.2.1 (EvP.pos hi.2.2 (EvP.pos (by omega) (EvP.ret ⟨hc.1, by simp⟩)))
theorem keep_Bytes (s : List Int) (a : Int) (l : List Int) (h : Src s a) (hb : bts l) (hl : l.length ≤ 1000) : EvP (fun _ => shapesearchkeep_Src_Bytes.f s a l) (fun r => Src s r.2 ∧ bts r.1 ∧ r.1.length ≤ l.length + 1) := by
  unfold shapesearchkeep_Src_Bytes.f
  refine EvP.bind1 (Ev.now _) (EvP.pos (by rw [List.length_nil]; omega) (EvP.bind1 (Ev.now _) ?_))
  rw [List.nil_append, w64 (n := (l.length : Int) + 1) (by omega) (by omega)]
  refine EvP.bind (keep_N s a 4 h (by omega) (by omega)) (fun c hc => EvP.ite (fun _ => ?_) (fun _ => EvP.ite (fun _ => ?_) (fun _ => EvP.ite (fun _ => EvP.ite (fun h0 => ?_) (fun _ => ?_)) (fun _ => ?_))))
  · refine EvP.bind (keep_N s c.2 ((l.length : Int) + 1) hc.1 (by omega) (by omega)) (fun i hi => EvP.pos hi.2.1 (EvP.pos (by omega) (EvP.ret ⟨hi.1, fun x hx => hb x (List.mem_of_mem_take hx), ?_⟩)))
    rw [List.length_take]
    omega
  · refine EvP.bind (keep_N s c.2 256 hc.1 (by omega) (by omega)) (fun i hi => EvP.pos (by omega) (EvP.ret ⟨hi.1, fun x hx => ?_, by simp⟩))
    rcases List.mem_append.1 hx with hx | hx
    · exact hb x hx
    · have : x = i.1 % 256 := by simpa using hx
      omega
  · refine EvP.bind (keep_N s c.2 l.length hc.1 (by omega) (by omega)) (fun i hi => EvP.pos hi.2.1 (EvP.pos hi.2.2 (EvP.bind (keep_Range s i.2 1 255 hi.1 (by omega) (by omega) (by omega)) (fun v hv => EvP.ret ⟨hv.1, fun x hx => ?_, by simp⟩))))
    rcases List.mem_or_eq_of_mem_set hx with hx | hx
    · exact hb x hx
    · have := bits_u8 .xor (rd l i.1) (v.1 % 256)
      rw [hx]
      omega
  · exact EvP.ret ⟨hc.1, hb, Nat.le_succ _⟩
  · exact EvP.ret ⟨hc.1, hb, Nat.le_succ _⟩
theorem rdL3_nat (l : List (List S25)) (i : Nat) (h : i < l.length) : rd_L3 l (i : Int) = l[i] := by
  unfold rd_L3
  rw [Int.toNat_natCast, List.getD_eq_getElem?_getD, List.getElem?_eq_getElem h]
  rfl
theorem rdL4_nat (l : List (List Int)) (i : Nat) (h : i < l.length) : rd_L4 l (i : Int) = l[i] := by
  unfold rd_L4
  rw [Int.toNat_natCast, List.getD_eq_getElem?_getD, List.getElem?_eq_getElem h]
  rfl
theorem ans_l1 (zs : List (List Int)) (hz : ∀ z ∈ zs, bts z ∧ z.length ≤ 900) (hl : zs.length ≤ 1000) : ∀ (d i : Nat), i + d = zs.length → EvP (fun k => shapesearchlaw06_PacketAnswers.l1 k zs (zs.length : Int) (i : Int)) (fun x => x = true) := by
  intro d
  induction d with
  | zero =>
    intro i hi
    exact EvP.step (fun k => by rw [shapesearchlaw06_PacketAnswers.l1]) (EvP.neg (by omega) (EvP.bind1 awake_is (EvP.ret rfl)))
  | succ d ih =>
    intro i hi
    have hlt : i < zs.length := by omega
    have ih1 := ih (i + 1) (by omega)
    have hzi := hz _ (List.getElem_mem hlt)
    refine EvP.step (fun k => by rw [shapesearchlaw06_PacketAnswers.l1]) (EvP.pos (by omega) (EvP.pos (by omega) (EvP.pos (by omega) ?_)))
    rw [rdL4_nat zs i hlt, w_succ (by omega)]
    obtain ⟨r, r1, r2, r3⟩ := both_dec zs[i] hzi.1 hzi.2
    exact EvP.bind1 r1 (EvP.bind1 r2 (EvP.bind (same_is r.1 r.1 (by omega)) (fun b hb => EvP.pos (hb.2 rfl) (EvP.pos rfl ih1))))
theorem three_bts {l : List Int} (h : bts l) : bts ([84, 83, 49] ++ l) := fun x hx => by
  rcases List.mem_append.1 hx with hx | hx
  · simp only [List.mem_cons, List.not_mem_nil, or_false] at hx
    omega
  · exact h x hx
theorem three_len (l : List Int) : (([84, 83, 49] : List Int) ++ l).length = l.length + 3 := by
  rw [List.length_append, show ([84, 83, 49] : List Int).length = 3 from rfl]
  omega
theorem ans_tail (x1 : List Int) (h1 : bts x1) (l1 : x1.length ≤ 400) (x8 : List S25) (h8 : ∀ r ∈ x8, Vrd r) (l8 : x8.length ≤ 15) (s : List Int) (a : Int) (h : Src s a) :
    EvP (fun k => (shapesearchref06_Encode.f k x8).bind fun bt354 => (if 3 ≤ (wrap64 ((bt354.1.length : Int) - 4)) then (if (wrap64 ((bt354.1.length : Int) - 4)) ≤ (bt354.1.length : Int) then ((shapesearchkeep_Src_Bytes.f s a ((bt354.1.take ((wrap64 ((bt354.1.length : Int) - 4)) : Int).toNat).drop 3)).bind fun bt362 => ((shapesearchkeep_Src_Raw.f s bt362.2).bind fun bt370 => ((shapesearchref03_PutInt.f k (([84, 83, 49, 2] : List Int)) bt370.1).bind fun t372 => ((shapesearchkeep_Src_Pick.f s bt370.2 (([0, 5, 4611686018427387904, (-9223372036854775808)] : List Int))).bind fun bt378 => ((shapesearchref03_PutInt.f k t372 bt378.1).bind fun t380 => ((shapesearchkeep_Src_Bytes.f s bt378.2 bt354.1).bind fun bt383 => ((some (([84, 83, 49] : List Int) : List Int)).bind fun y387 => (if y387.length + x1.length < 140737488355328 then ((some (([84, 83, 49] : List Int) : List Int)).bind fun y395 => (if y395.length + bt362.1.length < 140737488355328 then ((shapesearchref03_Sealed.f k (y395 ++ bt362.1)).bind fun t403 => ((some (([84, 83, 49] : List Int) : List Int)).bind fun y406 => (if y406.length + x1.length < 140737488355328 then ((shapesearchref03_Sealed.f k (y406 ++ x1)).bind fun t414 => ((shapesearchref03_Sealed.f k t380).bind fun t417 => ((shapesearchref03_Sealed.f k bt362.1).bind fun t420 => ((some (([x1, bt354.1, bt383.1, (y387 ++ x1), t403, t414, t417, t420] : List (List Int)) : List (List Int))).bind fun y423 => (shapesearchlaw06_PacketAnswers.l1 k y423 (y423.length : Int) 0))))) else (none)))) else (none))) else (none))))))))) else (none)) else (none))) (fun x => x = true) := by
  have hl := body_len x8 h8 (by omega)
  have hsl := seal_len (bodyB x8)
  have hsb := sealB_bts (bodyB_bts x8)
  refine EvP.bind1 (refEncode_is x8 h8 (by omega)) ?_
  dsimp only
  generalize sealB (bodyB x8) = P at *
  have ew : wrap64 ((P.length : Int) - 4) = (P.length : Int) - 4 := w64 (by omega) (by omega)
  rw [ew]
  refine EvP.pos (by omega) (EvP.pos (by omega) ?_)
  have hmb : bts ((P.take ((P.length : Int) - 4).toNat).drop 3) := fun x hx => hsb x (List.mem_of_mem_take (List.mem_of_mem_drop hx))
  have hml : ((P.take ((P.length : Int) - 4).toNat).drop 3).length ≤ 400 := by rw [List.length_drop, List.length_take]; omega
  generalize (P.take ((P.length : Int) - 4).toNat).drop 3 = m at *
  refine EvP.bind (keep_Bytes s a m h hmb (by omega)) (fun b hb => EvP.bind (keep_Raw s b.2 hb.1) (fun w hw => ?_))
  have aw := encN_ten (foldN_lt (n := w.1) hw.2.1 hw.2.2)
  refine EvP.bind1 (refput_is hw.2.1 hw.2.2 [84, 83, 49, 2] (by simp)) (EvP.bind (keep_Pick s w.2 [0, 5, 4611686018427387904, -9223372036854775808] hw.1 (by simp) (by simp)) (fun v hv => ?_))
  have hv2 : -9223372036854775808 ≤ v.1 ∧ v.1 ≤ 9223372036854775807 := by
    have := hv.2
    simp only [List.mem_cons, List.not_mem_nil, or_false] at this
    omega
  have av := encN_ten (foldN_lt (n := v.1) hv2.1 hv2.2)
  refine EvP.bind1 (refput_is hv2.1 hv2.2 _ (by rw [List.length_append, show ([84, 83, 49, 2] : List Int).length = 4 from rfl]; omega)) ?_
  have hqb : bts (([84, 83, 49, 2] ++ encN (foldN w.1)) ++ encN (foldN v.1)) := fun x hx => by
    rcases List.mem_append.1 hx with hx | hx
    · rcases List.mem_append.1 hx with hx | hx
      · simp only [List.mem_cons, List.not_mem_nil, or_false] at hx
        omega
      · exact encN_bts _ _ (Nat.lt_succ_self _) x hx
    · exact encN_bts _ _ (Nat.lt_succ_self _) x hx
  have hql : (([84, 83, 49, 2] ++ encN (foldN w.1)) ++ encN (foldN v.1)).length ≤ 24 := by
    rw [List.length_append, List.length_append, show ([84, 83, 49, 2] : List Int).length = 4 from rfl]
    omega
  generalize ([84, 83, 49, 2] ++ encN (foldN w.1)) ++ encN (foldN v.1) = q at *
  refine EvP.bind (keep_Bytes s v.2 P hv.1 hsb (by omega)) (fun c hc => ?_)
  have t1 := three_len x1
  have t2 := three_len b.1
  have u1 := three_bts h1
  have u2 := three_bts hb.2.1
  have e3 : ([84, 83, 49] : List Int).length = 3 := rfl
  refine EvP.bind1 (Ev.now _) (EvP.pos (by rw [e3]; omega) (EvP.bind1 (Ev.now _) (EvP.pos (by rw [e3]; omega) (EvP.bind1 (refsealed_is _ u2 (by omega)) (EvP.bind1 (Ev.now _) (EvP.pos (by rw [e3]; omega) (EvP.bind1 (refsealed_is _ u1 (by omega)) (EvP.bind1 (refsealed_is q hqb (by omega)) (EvP.bind1 (refsealed_is b.1 hb.2.1 (by omega)) (EvP.bind1 (Ev.now _) ?_))))))))))
  have s1 := seal_len ([84, 83, 49] ++ x1)
  have s2 := seal_len ([84, 83, 49] ++ b.1)
  have s3 := seal_len q
  have s4 := seal_len b.1
  have v1 := sealB_bts u1
  have v2 := sealB_bts u2
  have v3 := sealB_bts hqb
  have v4 := sealB_bts hb.2.1
  generalize sealB ([84, 83, 49] ++ x1) = z1 at *
  generalize sealB ([84, 83, 49] ++ b.1) = z2 at *
  generalize sealB q = z3 at *
  generalize sealB b.1 = z4 at *
  generalize [84, 83, 49] ++ x1 = z5 at *
  refine ans_l1 [x1, P, c.1, z5, z2, z1, z3, z4] (fun z hz => ?_) (by simp) 8 0 rfl
  simp only [List.mem_cons, List.not_mem_nil, or_false] at hz
  rcases hz with rfl | rfl | rfl | rfl | rfl | rfl | rfl | rfl
  · exact ⟨h1, by omega⟩
  · exact ⟨hsb, by omega⟩
  · exact ⟨hc.2.1, by omega⟩
  · exact ⟨u1, by omega⟩
  · exact ⟨v2, by omega⟩
  · exact ⟨v1, by omega⟩
  · exact ⟨v3, by omega⟩
  · exact ⟨v4, by omega⟩
theorem ans_l0 (x1 : List Int) (h1 : bts x1) (l1 : x1.length ≤ 400) (x8 : List S25) (h8 : ∀ r ∈ x8, Vrd r) (l8 : x8.length ≤ 15) (s : List Int) (a : Int) (h : Src s a) (X : List (List S25)) (hX : ∀ z ∈ X, z.length ≤ 2000) (lX : X.length ≤ 1000) :
    ∀ (d i : Nat), i + d = X.length → EvP (fun k => shapesearchlaw06_PacketAnswers.l0 k x1 x8 X (X.length : Int) (i : Int) s a) (fun x => x = true) := by
  intro d
  induction d with
  | zero =>
    intro i hi
    exact EvP.step (fun k => by rw [shapesearchlaw06_PacketAnswers.l0]) (EvP.neg (by omega) (ans_tail x1 h1 l1 x8 h8 l8 s a h))
  | succ d ih =>
    intro i hi
    have hlt : i < X.length := by omega
    have ih1 := ih (i + 1) (by omega)
    refine EvP.step (fun k => by rw [shapesearchlaw06_PacketAnswers.l0]) (EvP.pos (by omega) (EvP.pos (by omega) (EvP.pos (by omega) ?_)))
    rw [rdL3_nat X i hlt, w_succ (by omega)]
    obtain ⟨r, r1, r2⟩ := both_enc X[i] (hX _ (List.getElem_mem hlt))
    exact EvP.bind1 r1 (EvP.bind1 r2 (EvP.pos rfl (EvP.pos rfl ih1)))
theorem PacketAnswers : shapesearchlaw06_PacketAnswers.Pure := by
  intro l0 l1 l2 h0 v0 h1 y1 v1 h2 y2 v2
  have hb1 : bts l1 := fun x hx => b_u8 (v1 x hx)
  refine EvP.rounds ?_
  have yes : EvP (fun k => shapesearchlaw06_PacketAnswers.j0 k l0 l1 l2 true) (fun x => x = true) := EvP.step (fun k => by rw [shapesearchlaw06_PacketAnswers.j0]) (EvP.pos rfl (EvP.bind1 awake_is (EvP.ret rfl)))
  unfold shapesearchlaw06_PacketAnswers.f
  refine EvP.ite (fun _ => yes) (fun c0 => ?_)
  by_cases c1 : (l1.length : Int) > 400
  · rw [decide_eq_true c1]
    exact yes
  rw [decide_eq_false c1]
  refine EvP.step (fun k => by rw [shapesearchlaw06_PacketAnswers.j0]) (EvP.neg (by decide) ?_)
  refine EvP.bind (keep_New l2 v2 h2) (fun s hs => EvP.bind (keep_Readings s.1 s.2 hs 15 (by omega) (by omega)) (fun x hx => EvP.bind (keep_Wrong s.1 x.2 x.1 hx.1 (by omega)) (fun y hy => EvP.bind1 (Ev.now _) ?_)))
  have lx := hx.2.2
  have ly := hy.2
  refine ans_l0 l1 hb1 (by omega) x.1 hx.2.1 (by omega) s.1 y.2 hy.1 [l0, x.1, y.1] (fun z hz => ?_) (by simp) 3 0 rfl
  simp only [List.mem_cons, List.not_mem_nil, or_false] at hz
  rcases hz with rfl | rfl | rfl <;> omega

end Go.Proofs.Ytgmiilolikbekaa.Pure
