/- This file proves that a packet of which one byte was changed is not read. -/
import Derived.Test.YtgmiilolikbekaaPPacketDamagex3
import Derived.Test.YtgmiilolikbekaaBase
import Derived.Test.YtgmiilolikbekaaMathCrc
set_option linter.unusedVariables false
namespace Go.Proofs.Ytgmiilolikbekaa.Pure
open Go.RowKit Go.Proofs.Ytgmiilolikbekaa.PPacketDamage Go.Proofs.YtgmiilolikbekaaW.PrintWords Go.Proofs.YtgmiilolikbekaaW.PrintLast Go.Proofs.YtgmiilolikbekaaW.PrintMore Go.Proofs.Ytgmiilolikbekaa.Base Go.Proofs.Ytgmiilolikbekaa.X
/-! ### the checksum: each step can be taken back -/
def stepN (x c : Nat) : Nat := (crcT (x % 256 ^^^ c)).toNat ^^^ (x / 256)
theorem byte_xor {a b : Nat} (ha : a < 256) (hb : b < 256) : a ^^^ b < 256 := by
  have := Nat.xor_lt_two_pow (n := 8) ha hb
  exact this
theorem word_xor {a b : Nat} (ha : a < 4294967296) (hb : b < 4294967296) : a ^^^ b < 4294967296 := by
  have := Nat.xor_lt_two_pow (n := 32) ha hb
  exact this
theorem top_byte (u v : Nat) (hv : v < 16777216) : (u ^^^ v) / 16777216 = u / 16777216 := by
  have h := Nat.shiftRight_xor_distrib (a := u) (b := v) (i := 24)
  rw [Nat.shiftRight_eq_div_pow, Nat.shiftRight_eq_div_pow, Nat.shiftRight_eq_div_pow] at h
  have e : (2 : Nat) ^ 24 = 16777216 := rfl
  rw [e, Nat.div_eq_of_lt hv, Nat.xor_zero] at h
  exact h
theorem stepN_lt {x c : Nat} (hx : x < 4294967296) (hc : c < 256) : stepN x c < 4294967296 := by
  have hi := byte_xor (a := x % 256) (b := c) (by omega) hc
  obtain ⟨h1, h2, _⟩ := crcT_back _ hi
  exact word_xor (by omega) (by omega)
theorem stepN_idx {x y c d : Nat} (hx : x < 4294967296) (hy : y < 4294967296) (hc : c < 256) (hd : d < 256) (h : stepN x c = stepN y d) : x % 256 ^^^ c = y % 256 ^^^ d := by
  have hi := byte_xor (a := x % 256) (b := c) (by omega) hc
  have hj := byte_xor (a := y % 256) (b := d) (by omega) hd
  have h1 := (crcT_back _ hi).2.2
  have h2 := (crcT_back _ hj).2.2
  have t1 := top_byte (crcT (x % 256 ^^^ c)).toNat (x / 256) (by omega)
  have t2 := top_byte (crcT (y % 256 ^^^ d)).toNat (y / 256) (by omega)
  have e : (crcT (x % 256 ^^^ c)).toNat ^^^ (x / 256) = (crcT (y % 256 ^^^ d)).toNat ^^^ (y / 256) := h
  rw [e, t2] at t1
  rw [← t1] at h1
  exact h1.symm.trans h2
theorem stepN_reg {x y c : Nat} (hx : x < 4294967296) (hy : y < 4294967296) (hc : c < 256) (h : stepN x c = stepN y c) : x = y := by
  have hi := stepN_idx hx hy hc hc h
  have e : (crcT (x % 256 ^^^ c)).toNat ^^^ (x / 256) = (crcT (y % 256 ^^^ c)).toNat ^^^ (y / 256) := h
  rw [hi] at e
  have h1 := xor_cancel e
  rw [Nat.xor_comm, Nat.xor_comm (y % 256)] at hi
  have h2 := xor_cancel hi
  omega
theorem stepN_byte {x c d : Nat} (hx : x < 4294967296) (hc : c < 256) (hd : d < 256) (h : stepN x c = stepN x d) : c = d := xor_cancel (stepN_idx hx hx hc hd h)
theorem step_is {x c : Nat} (hx : x < 4294967296) (hc : c < 256) : Go.bits .xor .u32 (crcT (Go.bits .xor .u8 ((x : Int) % 256) (c : Int)).toNat) ((x : Int) / 256) = (stepN x c : Int) := by
  have hi := byte_xor (a := x % 256) (b := c) (by omega) hc
  obtain ⟨h1, h2, _⟩ := crcT_back _ hi
  have e1 : ((x : Int) % 256) = ((x % 256 : Nat) : Int) := by omega
  have e2 : ((x : Int) / 256) = ((x / 256 : Nat) : Int) := by omega
  rw [e1, e2, xor_u8 _ _ (by omega) hc, Int.toNat_natCast]
  have e3 : crcT (x % 256 ^^^ c) = ((crcT (x % 256 ^^^ c)).toNat : Int) := (Int.toNat_of_nonneg h1).symm
  rw [e3, xor_u32 _ _ (by omega) (by omega)]
  rfl
def Bts (l : List Int) : Prop := ∀ x ∈ l, 0 ≤ x ∧ x ≤ 255
theorem crcFrom_reg : ∀ (l : List Int), Bts l → ∀ x : Nat, x < 4294967296 → ∃ r : Nat, r < 4294967296 ∧ crcFrom x l = (r : Int) ∧ ∀ y : Nat, y < 4294967296 → crcFrom y l = (r : Int) → y = x
  | [], _, x, hx => ⟨x, hx, rfl, fun y _ h => Int.ofNat.inj h⟩
  | c :: l, hl, x, hx => by
    have hc := hl c (List.mem_cons_self ..)
    obtain ⟨d, rfl⟩ := Int.eq_ofNat_of_zero_le hc.1
    have hd : d < 256 := by omega
    obtain ⟨r, h1, h2, h3⟩ := crcFrom_reg l (fun z hz => hl z (List.mem_cons_of_mem _ hz)) (stepN x d) (stepN_lt hx hd)
    refine ⟨r, h1, ?_, fun y hy h => ?_⟩
    · show crcFrom (Go.bits .xor .u32 (crcT (Go.bits .xor .u8 ((x : Int) % 256) (d : Int)).toNat) ((x : Int) / 256)) l = _
      rw [step_is hx hd]
      exact h2
    · have h' : crcFrom (Go.bits .xor .u32 (crcT (Go.bits .xor .u8 ((y : Int) % 256) (d : Int)).toNat) ((y : Int) / 256)) l = (r : Int) := h
      rw [step_is hy hd] at h'
      exact stepN_reg hy hx hd (h3 _ (stepN_lt hy hd) h')
theorem crcFrom_set : ∀ (l : List Int), Bts l → ∀ (i : Nat) (b : Int), 0 ≤ b → b ≤ 255 → ∀ (h : i < l.length), l[i] ≠ b → ∀ x : Nat, x < 4294967296 → crcFrom x l ≠ crcFrom x (l.set i b)
  | [], _, i, b, _, _, h, _, _, _ => absurd h (Nat.not_lt_zero _)
  | c :: l, hl, i, b, hb, hb', h, hne, x, hx => by
    have hc := hl c (List.mem_cons_self ..)
    obtain ⟨d, rfl⟩ := Int.eq_ofNat_of_zero_le hc.1
    have hd : d < 256 := by omega
    have hl' : Bts l := fun z hz => hl z (List.mem_cons_of_mem _ hz)
    have e1 : crcFrom x ((d : Int) :: l) = crcFrom (stepN x d : Int) l := by
      show crcFrom (Go.bits .xor .u32 (crcT (Go.bits .xor .u8 ((x : Int) % 256) (d : Int)).toNat) ((x : Int) / 256)) l = _
      rw [step_is hx hd]
    cases i with
    | zero =>
      obtain ⟨f, rfl⟩ := Int.eq_ofNat_of_zero_le hb
      have hf : f < 256 := by omega
      have e2 : crcFrom x ((f : Int) :: l) = crcFrom (stepN x f : Int) l := by
        show crcFrom (Go.bits .xor .u32 (crcT (Go.bits .xor .u8 ((x : Int) % 256) (f : Int)).toNat) ((x : Int) / 256)) l = _
        rw [step_is hx hf]
      intro he
      have he' : crcFrom (stepN x d : Int) l = crcFrom (stepN x f : Int) l := by
        rw [← e1, ← e2]
        exact he
      obtain ⟨r, h1, h2, h3⟩ := crcFrom_reg l hl' (stepN x d) (stepN_lt hx hd)
      have h4 := h3 _ (stepN_lt hx hf) (he'.symm.trans h2)
      have h5 := stepN_byte hx hf hd h4
      exact hne (by rw [h5]; rfl)
    | succ j =>
      have hj : j < l.length := by simpa using h
      have hne' : l[j] ≠ b := by simpa using hne
      have e2 : crcFrom x ((d : Int) :: l.set j b) = crcFrom (stepN x d : Int) (l.set j b) := by
        show crcFrom (Go.bits .xor .u32 (crcT (Go.bits .xor .u8 ((x : Int) % 256) (d : Int)).toNat) ((x : Int) / 256)) _ = _
        rw [step_is hx hd]
      intro he
      refine crcFrom_set l hl' j b hb hb' hj hne' (stepN x d) (stepN_lt hx hd) ?_
      rw [← e1, ← e2]
      exact he
theorem crc_set {l : List Int} (hl : Bts l) (i : Nat) (b : Int) (hb : 0 ≤ b) (hb' : b ≤ 255) (h : i < l.length) (hne : l[i] ≠ b) : crc l ≠ crc (l.set i b) := by
  have hl2 : Bts (l.set i b) := fun z hz => by
    rcases List.mem_or_eq_of_mem_set hz with h | h
    · exact hl z h
    · omega
  obtain ⟨r, h1, h2, _⟩ := crcFrom_reg l hl 4294967295 (by decide)
  obtain ⟨q, k1, k2, _⟩ := crcFrom_reg (l.set i b) hl2 4294967295 (by decide)
  have hn := crcFrom_set l hl i b hb hb' h hne 4294967295 (by decide)
  rw [h2, k2] at hn
  intro he
  have h2' : crcFrom 4294967295 l = (r : Int) := h2
  have k2' : crcFrom 4294967295 (l.set i b) = (q : Int) := k2
  have he' : Go.bits .xor .u32 ((4294967295 : Nat) : Int) (r : Int) = Go.bits .xor .u32 ((4294967295 : Nat) : Int) (q : Int) := by
    rw [← h2', ← k2']
    exact he
  rw [xor_u32 _ _ (by decide) h1, xor_u32 _ _ (by decide) k1] at he'
  exact hn (by rw [xor_cancel (Int.ofNat.inj he')])
/-! ### numbers as bytes -/
def foldN (n : Int) : Nat := if 0 ≤ n then (2 * n).toNat else (-2 * n - 1).toNat
theorem wu64 (n : Int) : IntKind.u64.wrap n = n % 18446744073709551616 := by
  have e : (2 : Int) ^ IntKind.u64.bits = 18446744073709551616 := rfl
  simp [IntKind.wrap, IntKind.bits, IntKind.signed]
theorem xor_ones (a : Nat) (h : a < 18446744073709551616) : Go.bits .xor .u64 (a : Int) 18446744073709551615 = ((18446744073709551615 - a : Nat) : Int) := by
  have e : BitVec.ofInt 64 18446744073709551615 = BitVec.allOnes 64 := by decide
  have e2 : BitVec.ofInt 64 (a : Int) = BitVec.ofNat 64 a := BitVec.ofInt_natCast 64 a
  show IntKind.u64.wrap ((BitVec.ofInt 64 (a : Int) ^^^ BitVec.ofInt 64 18446744073709551615).toNat : Int) = _
  rw [e, e2, BitVec.xor_allOnes, BitVec.toNat_not, BitVec.toNat_ofNat, wu64]
  have : (2 : Nat) ^ 64 = 18446744073709551616 := rfl
  omega
theorem xor_zero64 (a : Nat) (h : a < 18446744073709551616) : Go.bits .xor .u64 (a : Int) 0 = (a : Int) := by
  have e2 : BitVec.ofInt 64 (a : Int) = BitVec.ofNat 64 a := BitVec.ofInt_natCast 64 a
  have e : BitVec.ofInt 64 0 = 0#64 := by decide
  show IntKind.u64.wrap ((BitVec.ofInt 64 (a : Int) ^^^ BitVec.ofInt 64 0).toNat : Int) = _
  rw [e, e2, BitVec.xor_zero, BitVec.toNat_ofNat, wu64]
  have : (2 : Nat) ^ 64 = 18446744073709551616 := rfl
  omega
theorem foldN_lt {n : Int} (h1 : -9223372036854775808 ≤ n) (h2 : n ≤ 9223372036854775807) : foldN n < 18446744073709551616 := by unfold foldN; split <;> omega
theorem fold_is {n : Int} (h1 : -9223372036854775808 ≤ n) (h2 : n ≤ 9223372036854775807) : Go.bits .xor .u64 (IntKind.u64.wrap ((IntKind.u64.wrap n) * 2)) (IntKind.u64.wrap (n / 9223372036854775808)) = (foldN n : Int) := by
  rw [wu64, wu64, wu64]
  by_cases h : 0 ≤ n
  · have e1 : n % 18446744073709551616 * 2 % 18446744073709551616 = ((2 * n).toNat : Int) := by omega
    have e2 : n / 9223372036854775808 % 18446744073709551616 = 0 := by omega
    rw [e1, e2, xor_zero64 _ (by omega)]
    unfold foldN
    rw [if_pos h]
  · have e1 : n % 18446744073709551616 * 2 % 18446744073709551616 = ((2 * n + 18446744073709551616).toNat : Int) := by omega
    have e2 : n / 9223372036854775808 % 18446744073709551616 = 18446744073709551615 := by omega
    rw [e1, e2, xor_ones _ (by omega)]
    unfold foldN
    rw [if_neg h]
    omega
def encN (u : Nat) : List Int := if h : u < 128 then [(u : Int)] else ((u % 128 + 128 : Nat) : Int) :: encN (u / 128)
termination_by u
decreasing_by omega
theorem encN_short {u : Nat} (h : u < 128) : encN u = [(u : Int)] := by rw [encN, dif_pos h]
theorem encN_long {u : Nat} (h : ¬ u < 128) : encN u = ((u % 128 + 128 : Nat) : Int) :: encN (u / 128) := by rw [encN, dif_neg h]
theorem encN_pos (u : Nat) : 1 ≤ (encN u).length := by
  by_cases h : u < 128
  · rw [encN_short h]
    exact Nat.le_refl _
  · rw [encN_long h]
    simp
theorem encN_len : ∀ (k u : Nat), u < 128 ^ (k + 1) → (encN u).length ≤ k + 1
  | 0, u, h => by rw [encN_short (by simpa using h)]; exact Nat.le_refl _
  | k + 1, u, h => by
    by_cases hu : u < 128
    · rw [encN_short hu]
      simp
    · rw [encN_long hu]
      have := encN_len k (u / 128) (by rw [Nat.pow_succ] at h; exact Nat.div_lt_of_lt_mul (by rw [Nat.mul_comm]; exact h))
      simpa using this
theorem encN_ten {u : Nat} (h : u < 18446744073709551616) : (encN u).length ≤ 10 := encN_len 9 u (Nat.lt_of_lt_of_le h (by decide))
theorem encN_mono : ∀ (k u v : Nat), u < k → u ≤ v → (encN u).length ≤ (encN v).length
  | 0, u, v, h, _ => absurd h (Nat.not_lt_zero _)
  | k + 1, u, v, h, huv => by
    by_cases hu : u < 128
    · rw [encN_short hu]
      exact encN_pos v
    · rw [encN_long hu, encN_long (show ¬ v < 128 by omega)]
      have := encN_mono k (u / 128) (v / 128) (by omega) (by omega)
      simpa using this
theorem or_high : ∀ i < 256, Go.bits .or .u8 ((i : Nat) : Int) 128 = ((i % 128 + 128 : Nat) : Int) := by decide +kernel
theorem put_loop : ∀ (k u : Nat), u < k → ∀ (out : List Int), out.length + (encN u).length ≤ 140737488355328 → Ev (fun n => codec_PutInt.l0 n (u : Int) out) (out ++ encN u)
  | 0, u, h, _, _ => absurd h (Nat.not_lt_zero _)
  | k + 1, u, h, out, hb => by
    have hp := encN_pos u
    refine Ev.step (fun n => by rw [codec_PutInt.l0]) ?_
    by_cases hu : u < 128
    · refine Ev.neg (by omega) (Ev.pos (by omega) ?_)
      rw [encN_short hu]
      have e : (u : Int) % 256 = u := by omega
      rw [e]
      exact Ev.now _
    · rw [encN_long hu] at hb ⊢
      have hp' := encN_pos (u / 128)
      rw [List.length_cons] at hb
      refine Ev.pos (by omega) (Ev.pos (by omega) ?_)
      have e1 : (u : Int) / 128 = ((u / 128 : Nat) : Int) := by omega
      have e2 : (u : Int) % 256 = ((u % 256 : Nat) : Int) := by omega
      have e3 : u % 256 % 128 = u % 128 := by omega
      rw [e1, e2, or_high _ (by omega), e3]
      have := put_loop k (u / 128) (by omega) (out ++ [((u % 128 + 128 : Nat) : Int)]) (by rw [List.length_append, List.length_singleton]; omega)
      rw [List.append_assoc] at this
      exact this
theorem put_is {n : Int} (h1 : -9223372036854775808 ≤ n) (h2 : n ≤ 9223372036854775807) (l : List Int) (hl : l.length ≤ 1000000) : Ev (fun k => codec_PutInt.f k l n) (l ++ encN (foldN n)) := by
  have h3 := encN_ten (foldN_lt h1 h2)
  unfold codec_PutInt.f
  refine Ev.pos (by simp; omega) ?_
  rw [fold_is h1 h2, List.nil_append]
  exact put_loop _ _ (Nat.lt_succ_self _) l (by omega)
/-! ### bytes as numbers -/
theorem wi64 (n : Int) : IntKind.i64.wrap n = wrap64 n := by
  have e : (2 : Int) ^ IntKind.i64.bits = 18446744073709551616 := rfl
  simp [IntKind.wrap, IntKind.bits, IntKind.signed, wrap64] <;> omega
theorem xor_i64_ones {a : Nat} (h : a < 9223372036854775808) : Go.bits .xor .i64 (a : Int) (-1) = -(a : Int) - 1 := by
  have e : BitVec.ofInt 64 (-1) = BitVec.allOnes 64 := by decide
  have e2 : BitVec.ofInt 64 (a : Int) = BitVec.ofNat 64 a := BitVec.ofInt_natCast 64 a
  show IntKind.i64.wrap ((BitVec.ofInt 64 (a : Int) ^^^ BitVec.ofInt 64 (-1)).toNat : Int) = _
  rw [e, e2, BitVec.xor_allOnes, BitVec.toNat_not, BitVec.toNat_ofNat, wi64]
  have : (2 : Nat) ^ 64 = 18446744073709551616 := rfl
  unfold wrap64
  omega
theorem xor_i64_zero {a : Nat} (h : a < 9223372036854775808) : Go.bits .xor .i64 (a : Int) 0 = (a : Int) := by
  have e2 : BitVec.ofInt 64 (a : Int) = BitVec.ofNat 64 a := BitVec.ofInt_natCast 64 a
  have e : BitVec.ofInt 64 0 = 0#64 := by decide
  show IntKind.i64.wrap ((BitVec.ofInt 64 (a : Int) ^^^ BitVec.ofInt 64 0).toNat : Int) = _
  rw [e, e2, BitVec.xor_zero, BitVec.toNat_ofNat, wi64]
  have : (2 : Nat) ^ 64 = 18446744073709551616 := rfl
  unfold wrap64
  omega
theorem and_one {a : Nat} (h : a < 18446744073709551616) : Go.bits .and .u64 (a : Int) 1 = ((a % 2 : Nat) : Int) := by
  have e2 : BitVec.ofInt 64 (a : Int) = BitVec.ofNat 64 a := BitVec.ofInt_natCast 64 a
  have e : BitVec.ofInt 64 1 = 1#64 := by decide
  show IntKind.u64.wrap ((BitVec.ofInt 64 (a : Int) &&& BitVec.ofInt 64 1).toNat : Int) = _
  have k : (2 : Nat) ^ 64 = 18446744073709551616 := rfl
  rw [e, e2, BitVec.toNat_and, BitVec.toNat_ofNat, wu64]
  have e3 : (1#64).toNat = 1 := rfl
  rw [e3, Nat.and_one_is_mod, k, Nat.mod_eq_of_lt h]
  omega
theorem or_add {u x j : Nat} (hu : u < 2 ^ j) (h : u + x * 2 ^ j < 18446744073709551616) : Go.bits .or .u64 (u : Int) ((x * 2 ^ j : Nat) : Int) = ((u + x * 2 ^ j : Nat) : Int) := by
  have e2 : ∀ a : Nat, BitVec.ofInt 64 (a : Int) = BitVec.ofNat 64 a := fun a => BitVec.ofInt_natCast 64 a
  show IntKind.u64.wrap ((BitVec.ofInt 64 (u : Int) ||| BitVec.ofInt 64 ((x * 2 ^ j : Nat) : Int)).toNat : Int) = _
  have k : (2 : Nat) ^ 64 = 18446744073709551616 := rfl
  have e3 := Nat.two_pow_add_eq_or_of_lt hu x
  rw [Nat.mul_comm (2 ^ j) x, Nat.or_comm] at e3
  rw [e2, e2, BitVec.toNat_or, BitVec.toNat_ofNat, BitVec.toNat_ofNat, wu64, k, Nat.mod_eq_of_lt (show u < 18446744073709551616 by omega), Nat.mod_eq_of_lt (show x * 2 ^ j < 18446744073709551616 by omega), ← e3]
  omega
theorem and_low : ∀ i < 256, Go.bits .and .u8 ((i : Nat) : Int) 127 = ((i % 128 : Nat) : Int) := by decide +kernel
theorem unfold_is {n : Int} (h1 : -9223372036854775808 ≤ n) (h2 : n ≤ 9223372036854775807) : Go.bits .xor .i64 (wrap64 ((foldN n : Int) / 2)) (wrap64 (-(wrap64 (Go.bits .and .u64 (foldN n : Int) 1)))) = n := by
  have h3 := foldN_lt h1 h2
  rw [and_one h3]
  by_cases h : 0 ≤ n
  · have e : foldN n = (2 * n).toNat := if_pos h
    have e1 : (foldN n : Int) / 2 = (n.toNat : Int) := by omega
    have e2 : foldN n % 2 = 0 := by omega
    rw [e1, e2, w64 (by omega) (by omega)]
    have := xor_i64_zero (a := n.toNat) (by omega)
    have e3 : wrap64 (-(wrap64 ((0 : Nat) : Int))) = 0 := by unfold wrap64; omega
    rw [e3, this]
    omega
  · have e : foldN n = (-2 * n - 1).toNat := if_neg h
    have e1 : (foldN n : Int) / 2 = ((-n - 1).toNat : Int) := by omega
    have e2 : foldN n % 2 = 1 := by omega
    rw [e1, e2, w64 (by omega) (by omega)]
    have := xor_i64_ones (a := (-n - 1).toNat) (by omega)
    have e3 : wrap64 (-(wrap64 ((1 : Nat) : Int))) = -1 := by unfold wrap64; omega
    rw [e3, this]
    omega
theorem rd_mid (pre post : List Int) (x : Int) : rd (pre ++ x :: post) (pre.length : Int) = x := by
  rw [rd_nat _ _ (by simp)]
  simp
/-- One byte's part of a number. -/
theorem part_is {x u j v : Nat} (hx : x % 128 ≤ v) (hx8 : x < 256) (hu : u < 2 ^ (7 * j)) (hj : j ≤ 9) (h : u + v * 2 ^ (7 * j) < 18446744073709551616) :
    Go.bits .or .u64 (u : Int) (shl .u64 (IntKind.u64.wrap (Go.bits .and .u8 (x : Int) 127)) (wrap64 (7 * (j : Int)))) = ((u + x % 128 * 2 ^ (7 * j) : Nat) : Int) := by
  have hm : x % 128 * 2 ^ (7 * j) ≤ v * 2 ^ (7 * j) := Nat.mul_le_mul_right _ hx
  have e1 : wrap64 (7 * (j : Int)) = ((7 * j : Nat) : Int) := by rw [w64 (by omega) (by omega)]; omega
  have e2 : IntKind.u64.wrap ((x % 128 : Nat) : Int) = ((x % 128 : Nat) : Int) := by rw [wu64]; omega
  rw [and_low _ hx8, e1, e2]
  unfold shl
  have e3 : min ((7 * j : Nat) : Int).toNat IntKind.u64.bits = 7 * j := by
    have : IntKind.u64.bits = 64 := rfl
    rw [this]
    omega
  rw [e3, wu64]
  have e4 : ((x % 128 : Nat) : Int) * 2 ^ (7 * j) = ((x % 128 * 2 ^ (7 * j) : Nat) : Int) := by push_cast; rfl
  rw [e4]
  have e5 : ((x % 128 * 2 ^ (7 * j) : Nat) : Int) % 18446744073709551616 = ((x % 128 * 2 ^ (7 * j) : Nat) : Int) := by
    generalize x % 128 * 2 ^ (7 * j) = q at *
    omega
  rw [e5]
  exact or_add hu (by omega)
theorem nine {j v : Nat} (hv : 1 ≤ v) (h : v * 2 ^ (7 * j) < 18446744073709551616) : j ≤ 9 := by
  rcases Nat.lt_or_ge 9 j with hj | hj
  · have h1 : (2 : Nat) ^ 70 ≤ 2 ^ (7 * j) := Nat.pow_le_pow_right (by decide) (by omega)
    have h2 : 2 ^ (7 * j) ≤ v * 2 ^ (7 * j) := Nat.le_mul_of_pos_left _ hv
    have h3 : (2 : Nat) ^ 70 = 1180591620717411303424 := by decide
    omega
  · exact hj
theorem w_addn {a b c : Nat} (h : c = a + b) (hc : c ≤ 1000) : wrap64 ((a : Int) + (b : Int)) = (c : Int) := by rw [w64 (by omega) (by omega)]; omega
theorem w_sevn {j : Nat} (h : j ≤ 9) : wrap64 (7 * (j : Int)) = ((7 * j : Nat) : Int) := by rw [w64 (by omega) (by omega)]; omega
theorem mod_part (v : Nat) : (v % 128 + 128) % 128 ≤ v := by omega
theorem byte_part (v : Nat) : v % 128 + 128 < 256 := by omega
theorem int_loop (at_ : Nat) (hat : at_ ≤ 900) (n : Int) (h1 : -9223372036854775808 ≤ n) (h2 : n ≤ 9223372036854775807) :
    ∀ (m v : Nat), v < m → ∀ (pre post : List Int) (u j : Nat), pre.length = at_ + j → u < 2 ^ (7 * j) → u + v * 2 ^ (7 * j) = foldN n → (1 ≤ j → 1 ≤ v) →
      Ev (fun k => codec_Int.l0 k (pre ++ (encN v ++ post)) (at_ : Int) (u : Int) (j : Int)) (n, ((pre.length + (encN v).length : Nat) : Int), 0)
  | 0, v, h, _, _, _, _, _, _, _, _ => absurd h (Nat.not_lt_zero _)
  | m + 1, v, h, pre, post, u, j, hp, hu, hf, hv => by
    have hfl := foldN_lt h1 h2
    have hj : j ≤ 9 := by
      rcases Nat.eq_zero_or_pos j with h0 | h0
      · omega
      · exact nine (hv h0) (by omega)
    have hb : pre.length ≤ 1000 := by omega
    refine Ev.step (fun k => by rw [codec_Int.l0]) (Ev.pos (by omega) ?_)
    have hle : u + v * 2 ^ (7 * j) < 18446744073709551616 := by omega
    have ew := w_addn hp hb
    have e7 := w_sevn hj
    have es := w_succ (i := pre.length) (Nat.lt_of_le_of_lt hb (by decide))
    have ej := w_succ (i := j) (Nat.lt_of_le_of_lt hj (by decide))
    by_cases hc : v < 128
    · rw [encN_short hc, List.singleton_append, ew, rd_mid]
      have hpart := part_is (x := v) (v := v) (u := u) (j := j) (Nat.mod_le _ _) (Nat.lt_trans hc (by decide)) hu hj hle
      rw [Nat.mod_eq_of_lt hc, hf] at hpart
      have ef := unfold_is h1 h2
      rw [hpart, ef]
      simp only [es, e7, List.length_singleton]
      clear hpart ef es e7 ew ej
      have hl : (pre ++ (v : Int) :: post).length = pre.length + 1 + post.length := by simp; omega
      refine Ev.neg (by rw [hl]; omega) (Ev.pos (by omega) (Ev.pos (by rw [hl]; omega) (Ev.pos (by omega) (Ev.neg (by omega) ?_))))
      have last : Ev (fun k => if (j : Int) > 0 then (if (v : Int) = 0 then some ((0 : Int), (0 : Int), (3 : Int)) else some (n, ((pre.length + 1 : Nat) : Int), 0)) else some (n, ((pre.length + 1 : Nat) : Int), 0)) (n, ((pre.length + 1 : Nat) : Int), 0) := by
        by_cases h0 : 1 ≤ j
        · have := hv h0
          exact Ev.pos (by omega) (Ev.neg (by omega) (Ev.now _))
        · exact Ev.neg (by omega) (Ev.now _)
      by_cases h9 : j = 9
      · refine Ev.pos (by omega) (Ev.neg ?_ last)
        subst h9
        have : (2 : Nat) ^ (7 * 9) = 9223372036854775808 := by decide
        rw [this] at hf
        omega
      · exact Ev.neg (by omega) last
    · rw [encN_long hc, List.cons_append, ew, rd_mid]
      have hpart := part_is (x := v % 128 + 128) (v := v) (u := u) (j := j) (mod_part v) (byte_part v) hu hj hle
      rw [Nat.add_mod_right, Nat.mod_mod] at hpart
      rw [hpart]
      simp only [e7, ej]
      clear hpart e7 ej es ew
      have hl : (pre ++ ((v % 128 + 128 : Nat) : Int) :: (encN (v / 128) ++ post)).length = pre.length + 1 + (encN (v / 128)).length + post.length := by simp; omega
      refine Ev.neg (by rw [hl]; omega) (Ev.pos (by omega) (Ev.pos (by rw [hl]; omega) (Ev.pos (by omega) (Ev.pos (by omega) ?_))))
      have hpow : 2 ^ (7 * (j + 1)) = 128 * 2 ^ (7 * j) := by rw [show 7 * (j + 1) = 7 + 7 * j by omega, Nat.pow_add]
      have hdm : v = 128 * (v / 128) + v % 128 := (Nat.div_add_mod v 128).symm
      have := int_loop at_ hat n h1 h2 m (v / 128) (by omega) (pre ++ [((v % 128 + 128 : Nat) : Int)]) post (u + v % 128 * 2 ^ (7 * j)) (j + 1) (by rw [List.length_append, List.length_singleton]; omega)
        (by
          rw [hpow]
          have h5 : v % 128 * 2 ^ (7 * j) ≤ 127 * 2 ^ (7 * j) := Nat.mul_le_mul_right _ (by omega)
          omega) (by
          rw [hpow, ← hf]
          have h5 : v * 2 ^ (7 * j) = (128 * (v / 128) + v % 128) * 2 ^ (7 * j) := by rw [← hdm]
          rw [h5]
          grind) (by omega)
      rw [List.append_assoc, List.singleton_append, List.length_append, List.length_singleton] at this
      rw [List.length_cons, show pre.length + ((encN (v / 128)).length + 1) = pre.length + 1 + (encN (v / 128)).length by omega]
      exact this
theorem encN_ne (u : Nat) : encN u ≠ [] := fun h => by
  have := encN_pos u
  rw [h] at this
  exact absurd this (by decide)
theorem int_short (at_ : Nat) (hat : at_ ≤ 900) :
    ∀ (m v : Nat), v < m → ∀ (pre : List Int) (u : Int) (j : Nat), pre.length = at_ + j → j + (encN v).length ≤ 10 →
      Ev (fun k => codec_Int.l0 k (pre ++ (encN v).dropLast) (at_ : Int) u (j : Int)) ((0 : Int), (0 : Int), (2 : Int))
  | 0, v, h, _, _, _, _, _ => absurd h (Nat.not_lt_zero _)
  | m + 1, v, h, pre, u, j, hp, hl => by
    have hpos := encN_pos v
    have hj : j ≤ 9 := by omega
    have hb : pre.length ≤ 1000 := by omega
    refine Ev.step (fun k => by rw [codec_Int.l0]) (Ev.pos (by omega) ?_)
    have ew := w_addn hp hb
    have e7 := w_sevn hj
    have ej := w_succ (i := j) (Nat.lt_of_le_of_lt hj (by decide))
    by_cases hc : v < 128
    · rw [encN_short hc, List.dropLast_singleton, List.append_nil, ew]
      exact Ev.pos (Int.le_refl _) (Ev.now _)
    · rw [encN_long hc, List.dropLast_cons_of_ne_nil (encN_ne _), ew, rd_mid]
      rw [encN_long hc, List.length_cons] at hl
      simp only [e7, ej]
      clear e7 ej ew
      have hlen : (pre ++ ((v % 128 + 128 : Nat) : Int) :: (encN (v / 128)).dropLast).length = pre.length + 1 + (encN (v / 128)).dropLast.length := by simp; omega
      refine Ev.neg (by rw [hlen]; omega) (Ev.pos (by omega) (Ev.pos (by rw [hlen]; omega) (Ev.pos (by omega) (Ev.pos (by omega) ?_))))
      have := fun u' => int_short at_ hat m (v / 128) (by omega) (pre ++ [((v % 128 + 128 : Nat) : Int)]) u' (j + 1) (by rw [List.length_append, List.length_singleton]; omega) (by omega)
      rw [List.append_assoc, List.singleton_append] at this
      exact this _
theorem int_is (l post : List Int) (hl : l.length ≤ 900) {n : Int} (h1 : -9223372036854775808 ≤ n) (h2 : n ≤ 9223372036854775807) : Ev (fun k => codec_Int.f k (l ++ (encN (foldN n) ++ post)) (l.length : Int)) (n, ((l.length + (encN (foldN n)).length : Nat) : Int), 0) := by
  unfold codec_Int.f
  refine Ev.neg (by omega) ?_
  have e : decide ((l.length : Int) > ((l ++ (encN (foldN n) ++ post)).length : Int)) = false := decide_eq_false (by rw [List.length_append]; omega)
  rw [e]
  refine Ev.step (fun k => by rw [codec_Int.j0]) (Ev.neg (by decide) ?_)
  exact int_loop l.length hl n h1 h2 _ _ (Nat.lt_succ_self _) l post 0 0 rfl (by decide) (by simp) (by omega)
theorem int_cut (l : List Int) (hl : l.length ≤ 900) {n : Int} (h1 : -9223372036854775808 ≤ n) (h2 : n ≤ 9223372036854775807) : Ev (fun k => codec_Int.f k (l ++ (encN (foldN n)).dropLast) (l.length : Int)) ((0 : Int), (0 : Int), (2 : Int)) := by
  have h10 := encN_ten (foldN_lt h1 h2)
  unfold codec_Int.f
  refine Ev.neg (by omega) ?_
  have e : decide ((l.length : Int) > ((l ++ (encN (foldN n)).dropLast).length : Int)) = false := decide_eq_false (by rw [List.length_append]; omega)
  rw [e]
  refine Ev.step (fun k => by rw [codec_Int.j0]) (Ev.neg (by decide) ?_)
  exact int_short l.length hl _ _ (Nat.lt_succ_self _) l 0 0 rfl (by omega)
/-! ### what is read was written so -/
theorem fold_surj (w : Nat) (h : w < 18446744073709551616) : ∃ n : Int, -9223372036854775808 ≤ n ∧ n ≤ 9223372036854775807 ∧ foldN n = w := by
  by_cases e : w % 2 = 0
  · exact ⟨((w / 2 : Nat) : Int), by omega, by omega, by unfold foldN; rw [if_pos (by omega)]; omega⟩
  · exact ⟨-((w / 2 : Nat) : Int) - 1, by omega, by omega, by unfold foldN; rw [if_neg (by omega)]; omega⟩
theorem pow_eight {j : Nat} (h : j ≤ 8) : (2 : Nat) ^ (7 * j) ≤ 72057594037927936 := by
  have : (2 : Nat) ^ (7 * j) ≤ 2 ^ 56 := Nat.pow_le_pow_right (by decide) (by omega)
  exact this
theorem pow_seven (j : Nat) : (2 : Nat) ^ (7 * (j + 1)) = 128 * 2 ^ (7 * j) := by rw [show 7 * (j + 1) = 7 + 7 * j by omega, Nat.pow_add]
def ReadAt (pre rest : List Int) (u j : Nat) (r : Int × Int × Int) : Prop :=
  r.2.2 = 0 → ∃ (v : Nat) (post : List Int), rest = encN v ++ post ∧ u + v * 2 ^ (7 * j) < 18446744073709551616 ∧ -9223372036854775808 ≤ r.1 ∧ r.1 ≤ 9223372036854775807 ∧ foldN r.1 = u + v * 2 ^ (7 * j) ∧ r.2.1 = ((pre.length + (encN v).length : Nat) : Int) ∧ (1 ≤ j → 1 ≤ v)
theorem int_conv_loop (at_ : Nat) (hat : at_ ≤ 900) :
    ∀ (d j : Nat), j + d = 10 → ∀ (pre rest : List Int) (u : Nat), pre.length = at_ + j → u < 2 ^ (7 * j) → (∀ x ∈ rest, 0 ≤ x ∧ x ≤ 255) →
      EvP (fun k => codec_Int.l0 k (pre ++ rest) (at_ : Int) (u : Int) (j : Int)) (ReadAt pre rest u j)
  | 0, j, hj, pre, rest, u, hp, hu, hr => by
    refine EvP.step (fun k => by rw [codec_Int.l0]) (EvP.neg (by omega) (EvP.ret (fun h => absurd h (by decide))))
  | d + 1, j, hjd, pre, [], u, hp, hu, hr => by
    have hb : pre.length ≤ 1000 := by omega
    have ew := w_addn hp hb
    refine EvP.step (fun k => by rw [codec_Int.l0]) (EvP.pos (by omega) ?_)
    rw [ew, List.append_nil]
    exact EvP.pos (by omega) (EvP.ret (fun h => absurd h (by decide)))
  | d + 1, j, hjd, pre, c :: rest, u, hp, hu, hr => by
    have hj : j ≤ 9 := by omega
    have hb : pre.length ≤ 1000 := by omega
    have hc := hr c (List.mem_cons_self ..)
    obtain ⟨x, rfl⟩ := Int.eq_ofNat_of_zero_le hc.1
    have hx8 : x < 256 := by omega
    have hl : (pre ++ (x : Int) :: rest).length = pre.length + 1 + rest.length := by simp; omega
    refine EvP.step (fun k => by rw [codec_Int.l0]) (EvP.pos (by omega) ?_)
    have ew := w_addn hp hb
    have e7 := w_sevn hj
    have es := w_succ (i := pre.length) (Nat.lt_of_le_of_lt hb (by decide))
    have ej := w_succ (i := j) (Nat.lt_of_le_of_lt hj (by decide))
    rw [ew, rd_mid]
    by_cases hc : x < 128
    · by_cases h9 : j = 9 ∧ 1 < x
      · simp only [e7]
        clear ew e7 es ej
        exact EvP.neg (by rw [hl]; omega) (EvP.pos (by omega) (EvP.pos (by rw [hl]; omega) (EvP.pos (by omega) (EvP.neg (by omega) (EvP.pos (by omega) (EvP.pos (by omega) (EvP.ret (fun h => absurd h (by decide)))))))))
      by_cases h0 : 1 ≤ j ∧ x = 0
      · simp only [e7]
        clear ew e7 es ej
        refine EvP.neg (by rw [hl]; omega) (EvP.pos (by omega) (EvP.pos (by rw [hl]; omega) (EvP.pos (by omega) (EvP.neg (by omega) ?_))))
        by_cases h9' : j = 9
        · exact EvP.pos (by omega) (EvP.neg (by omega) (EvP.pos (by omega) (EvP.pos (by omega) (EvP.ret (fun h => absurd h (by decide))))))
        · exact EvP.neg (by omega) (EvP.pos (by omega) (EvP.pos (by omega) (EvP.ret (fun h => absurd h (by decide)))))
      have hle : u + x * 2 ^ (7 * j) < 18446744073709551616 := by
        clear ew e7 es ej
        by_cases h9' : j = 9
        · subst h9'
          have e9 : (2 : Nat) ^ (7 * 9) = 9223372036854775808 := by decide
          rw [e9] at hu ⊢
          omega
        · have h8 := pow_eight (j := j) (by omega)
          have h5 : x * 2 ^ (7 * j) ≤ 127 * 2 ^ (7 * j) := Nat.mul_le_mul_right _ (by omega)
          omega
      obtain ⟨n, n1, n2, hn⟩ := fold_surj _ hle
      have hpart := part_is (x := x) (v := x) (u := u) (j := j) (Nat.mod_le _ _) hx8 hu hj hle
      rw [Nat.mod_eq_of_lt hc, ← hn] at hpart
      have ef := unfold_is n1 n2
      rw [hpart, ef]
      simp only [es, e7]
      clear hpart ef es e7 ew ej
      refine EvP.neg (by rw [hl]; omega) (EvP.pos (by omega) (EvP.pos (by rw [hl]; omega) (EvP.pos (by omega) (EvP.neg (by omega) ?_))))
      have fin : ReadAt pre ((x : Int) :: rest) u j (n, ((pre.length + 1 : Nat) : Int), 0) := fun _ =>
        ⟨x, rest, by rw [encN_short hc]; rfl, hle, n1, n2, hn, by rw [encN_short hc]; rfl, fun h => by omega⟩
      have last : EvP (fun k => if (j : Int) > 0 then (if (x : Int) = 0 then some ((0 : Int), (0 : Int), (3 : Int)) else some (n, ((pre.length + 1 : Nat) : Int), 0)) else some (n, ((pre.length + 1 : Nat) : Int), 0)) (ReadAt pre ((x : Int) :: rest) u j) := by
        by_cases h1 : 1 ≤ j
        · exact EvP.pos (by omega) (EvP.neg (by omega) (EvP.ret fin))
        · exact EvP.neg (by omega) (EvP.ret fin)
      by_cases h9' : j = 9
      · exact EvP.pos (by omega) (EvP.neg (by omega) last)
      · exact EvP.neg (by omega) last
    · by_cases h9 : j = 9
      · simp only [e7, ej]
        clear ew e7 es ej
        refine EvP.neg (by rw [hl]; omega) (EvP.pos (by omega) (EvP.pos (by rw [hl]; omega) (EvP.pos (by omega) (EvP.pos (by omega) ?_))))
        exact EvP.step (fun k => by rw [codec_Int.l0]) (EvP.neg (by omega) (EvP.ret (fun h => absurd h (by decide))))
      · have h8 := pow_eight (j := j) (by clear ew e7 es ej; omega)
        have h5 : x % 128 * 2 ^ (7 * j) ≤ 127 * 2 ^ (7 * j) := Nat.mul_le_mul_right _ (by clear ew e7 es ej; omega)
        have hpart := part_is (x := x) (v := x % 128) (u := u) (j := j) (Nat.le_refl _) hx8 hu hj (by clear ew e7 es ej; omega)
        rw [hpart]
        simp only [e7, ej]
        clear hpart e7 ej es ew
        refine EvP.neg (by rw [hl]; omega) (EvP.pos (by omega) (EvP.pos (by rw [hl]; omega) (EvP.pos (by omega) (EvP.pos (by omega) ?_))))
        have hpow := pow_seven j
        have ih := int_conv_loop at_ hat d (j + 1) (by omega) (pre ++ [(x : Int)]) rest (u + x % 128 * 2 ^ (7 * j)) (by rw [List.length_append, List.length_singleton]; omega) (by rw [hpow]; omega) (fun y hy => hr y (List.mem_cons_of_mem _ hy))
        rw [List.append_assoc, List.singleton_append] at ih
        refine ih.mono (fun r h e0 => ?_)
        obtain ⟨v, post, q1, q2, q3, q4, q5, q6, q7⟩ := h e0
        have hv := q7 (by omega)
        have ex : (v * 128 + x % 128) % 128 + 128 = x := by omega
        have ed : (v * 128 + x % 128) / 128 = v := by omega
        have en : encN (v * 128 + x % 128) = (x : Int) :: encN v := by
          rw [encN_long (by omega), ex, ed]
        have em : u + (v * 128 + x % 128) * 2 ^ (7 * j) = u + x % 128 * 2 ^ (7 * j) + v * 2 ^ (7 * (j + 1)) := by
          rw [hpow, Nat.add_mul, Nat.mul_assoc]
          omega
        refine ⟨v * 128 + x % 128, post, by rw [en, q1]; rfl, by rw [em]; exact q2, q3, q4, by rw [em]; exact q5, ?_, fun _ => by omega⟩
        rw [q6, en, List.length_append, List.length_singleton, List.length_cons]
        congr 1
        omega
theorem int_any (b : List Int) (hb : ∀ x ∈ b, 0 ≤ x ∧ x ≤ 255) (i : Nat) (hi : i ≤ b.length) (hi9 : i ≤ 900) : EvP (fun k => codec_Int.f k b (i : Int)) (fun r => r.2.2 = 0 → -9223372036854775808 ≤ r.1 ∧ r.1 ≤ 9223372036854775807 ∧ ∃ e : Nat, r.2.1 = (e : Int) ∧ i ≤ e ∧ e ≤ b.length ∧ b.drop i = encN (foldN r.1) ++ b.drop e) := by
  unfold codec_Int.f
  refine EvP.neg (by omega) ?_
  have e : decide ((i : Int) > (b.length : Int)) = false := decide_eq_false (by omega)
  rw [e]
  refine EvP.step (fun k => by rw [codec_Int.j0]) (EvP.neg (by decide) ?_)
  have hlt : (b.take i).length = i := by rw [List.length_take]; omega
  have h := int_conv_loop i hi9 10 0 rfl (b.take i) (b.drop i) 0 (by rw [hlt]; rfl) (by decide) (fun x hx => hb x (List.mem_of_mem_drop hx))
  rw [List.take_append_drop] at h
  refine EvP.mono h (fun r hr e0 => ?_)
  obtain ⟨v, post, q1, q2, q3, q4, q5, q6, _⟩ := hr e0
  have ev : foldN r.1 = v := by rw [q5]; simp
  have hlen := congrArg List.length q1
  rw [List.length_drop, List.length_append] at hlen
  refine ⟨q3, q4, i + (encN v).length, by rw [q6, hlt], by omega, by omega, ?_⟩
  rw [← List.drop_drop, q1, List.drop_left, ev]
/-! ### readings as bytes -/
def Vrd (r : S25) : Prop := 0 ≤ r.f0 ∧ r.f0 ≤ 1099511627776 ∧ -1000 ≤ r.f1 ∧ r.f1 ≤ 1000
def sealB (b : List Int) : List Int := b ++ [(X.crc b) % 256, (X.crc b / 256) % 256, (X.crc b / 65536) % 256, (X.crc b / 16777216) % 256]
def encR : Int → Int → List S25 → List Int
  | _, _, [] => []
  | p, q, r :: l => encN (foldN (r.f0 - p)) ++ encN (foldN (r.f1 - q)) ++ encR r.f0 r.f1 l
theorem rdT_nat (l : List S25) (i : Nat) (h : i < l.length) : rd_T25 l (i : Int) = l[i] := by
  unfold rd_T25
  rw [Int.toNat_natCast, List.getD_eq_getElem?_getD, List.getElem?_eq_getElem h]
  rfl
theorem valid_is {r : S25} (h : Vrd r) : packet_valid.f r.f0 r.f1 = some true := by
  obtain ⟨h1, h2, h3, h4⟩ := h
  unfold packet_valid.f
  rw [if_pos h1, if_pos h2, if_pos h3, decide_eq_true h4]
theorem encR_len : ∀ (l : List S25), (∀ r ∈ l, Vrd r) → ∀ p q : Int, 0 ≤ p → p ≤ 1099511627776 → -1000 ≤ q → q ≤ 1000 → (encR p q l).length ≤ 20 * l.length
  | [], _, _, _, _, _, _, _ => by simp [encR]
  | r :: l, h, p, q, p0, p1, q0, q1 => by
    obtain ⟨h1, h2, h3, h4⟩ := h r (by simp)
    have ih := encR_len l (fun s hs => h s (by simp [hs])) r.f0 r.f1 h1 h2 h3 h4
    have a := encN_ten (foldN_lt (n := r.f0 - p) (by omega) (by omega))
    have b := encN_ten (foldN_lt (n := r.f1 - q) (by omega) (by omega))
    simp only [encR, List.length_append, List.length_cons]
    omega
theorem Encode_l0 (x4 : List Int) (h4 : x4.length ≤ 100) (l : List S25) (hv : ∀ r ∈ l, Vrd r) (hl : l.length ≤ 2000) (d : Nat) :
    ∀ (i : Nat) (x6 : List Int) (p q : Int), i + d = l.length → x6.length ≤ 20 * i → 0 ≤ p → p ≤ 1099511627776 → -1000 ≤ q → q ≤ 1000 →
      Ev (fun k => packet_Encode.l0 k x4 x6 l (l.length : Int) (i : Int) p q) (sealB (x4 ++ (x6 ++ encR p q (l.drop i))), 0) := by
  induction d with
  | zero =>
    intro i x6 p q hi h6 p0 p1 q0 q1
    refine Ev.step (fun k => by rw [packet_Encode.l0]) (Ev.neg (by omega) (Ev.pos (by omega) ?_))
    rw [show l.drop i = [] from List.drop_eq_nil_of_le (by omega)]
    have e : encR p q [] = [] := rfl
    rw [e, List.append_nil]
    refine Ev.bind (Ev.now _) (Ev.bind (Ev.now (X.crc (x4 ++ x6))) (Ev.bind (Ev.now _) (Ev.pos (by simp; omega) (Ev.now _))))
  | succ d ih =>
    intro i x6 p q hi h6 p0 p1 q0 q1
    have hlt : i < l.length := by omega
    have hi1 : i + 1 + d = l.length := by omega
    have hr := hv l[i] (List.getElem_mem _)
    have hr' := hr
    obtain ⟨h1, h2, h3, h5⟩ := hr'
    refine Ev.step (fun k => by rw [packet_Encode.l0]) (Ev.pos (by omega) (Ev.pos (by omega) (Ev.pos (by omega) ?_)))
    rw [rdT_nat l i hlt, valid_is hr, List.drop_eq_getElem_cons hlt, w_succ (by omega)]
    generalize l[i] = r at *
    have a := encN_ten (foldN_lt (n := r.f0 - p) (by omega) (by omega))
    have b := encN_ten (foldN_lt (n := r.f1 - q) (by omega) (by omega))
    rw [w64 (n := r.f0 - p) (by omega) (by omega), w64 (n := r.f1 - q) (by omega) (by omega)]
    refine Ev.bind (Ev.now _) (Ev.pos rfl (Ev.bind (put_is (by omega) (by omega) [] (by simp)) (Ev.bind (put_is (by omega) (by omega) _ (by simp; omega)) ?_)))
    rw [List.nil_append]
    refine Ev.pos (by rw [List.length_append]; omega) ?_
    have := ih (i + 1) (x6 ++ (encN (foldN (r.f0 - p)) ++ encN (foldN (r.f1 - q)))) r.f0 r.f1 hi1 (by rw [List.length_append, List.length_append]; omega) h1 h2 h3 h5
    rw [List.append_assoc] at this
    exact this
theorem Encode_is (l : List S25) (hv : ∀ r ∈ l, Vrd r) (hl : l.length ≤ 2000) : Ev (fun k => packet_Encode.f k l) (sealB (([84, 83, 49] ++ encN (foldN (l.length : Int))) ++ encR 0 0 l), 0) := by
  unfold packet_Encode.f
  refine Ev.neg (by omega) (Ev.bind (put_is (by omega) (by omega) _ (by simp)) ?_)
  have a := encN_ten (foldN_lt (n := (l.length : Int)) (by omega) (by omega))
  have := Encode_l0 ([84, 83, 49] ++ encN (foldN (l.length : Int))) (by simp; omega) l hv hl l.length 0 [] 0 0 (by omega) (by simp) (by omega) (by omega) (by omega) (by omega)
  rw [List.drop_zero, List.nil_append] at this
  exact this
theorem awake_is : Ev (fun k => shapesearchlaw06_awake.f k) true := Ev.of shapesearchlaw06_awake.mono (k := 40) (by decide +kernel)
/-! ### numbers out of a list -/
theorem keep_New (l0 : List Int) (h : ∀ x ∈ l0, (Lit.int .i64 x).wf = true) (hl : l0.length ≤ maxLen) : EvP (fun _ => shapesearchkeep_New.f l0) (fun r => Src r.1 r.2) := by
  have e : mn (l0.length : Int) 2000 = ((min l0.length 2000 : Nat) : Int) := by unfold mn; split <;> omega
  unfold shapesearchkeep_New.f
  rw [e]
  refine EvP.pos (by omega) (EvP.pos (by omega) (EvP.ret ?_))
  refine ⟨Int.le_refl _, by omega, by rw [List.length_take]; omega, fun x hx => b_i64 (h x (List.mem_of_mem_take hx))⟩
theorem keep_Raw (s : List Int) (a : Int) (h : Src s a) : EvP (fun _ => shapesearchkeep_Src_Raw.f s a) (fun r => Src s r.2 ∧ -9223372036854775808 ≤ r.1 ∧ r.1 ≤ 9223372036854775807) := by
  obtain ⟨h0, h1, h2, h3⟩ := h
  unfold shapesearchkeep_Src_Raw.f
  refine EvP.ite (fun hc => EvP.ret ⟨⟨h0, h1, h2, h3⟩, by omega, by omega⟩) (fun hc => ?_)
  have hw : wrap64 (a + 1) = a + 1 := w64 (by omega) (by omega)
  have hw2 : wrap64 (a + 1 - 1) = a := by rw [w64 (by omega) (by omega)]; omega
  rw [hw, hw2]
  have hm := h3 _ (rd_mem s a h0 (by omega))
  exact EvP.pos h0 (EvP.pos (by omega) (EvP.ret ⟨⟨by omega, by omega, h2, h3⟩, hm⟩))
theorem keep_Mod (a n : Int) (ha : -9223372036854775808 ≤ a) (ha' : a ≤ 9223372036854775807) (hn : 1 ≤ n) (hn' : n ≤ 9223372036854775807) : EvP (fun _ => shapesearchkeep_Mod.f a n) (fun t => 0 ≤ t ∧ t < n) := by
  have h1 := Int.tmod_lt_of_pos a (show 0 < n by omega)
  have h2 := Int.lt_tmod_of_pos a (show 0 < n by omega)
  unfold shapesearchkeep_Mod.f
  refine EvP.neg (by omega) (EvP.neg (by omega) (EvP.ite (fun hc => EvP.ret ?_) (fun hc => EvP.ret ?_)))
  · rw [w64 (by omega) (by omega)]
    omega
  · omega
theorem keep_N (s : List Int) (a n : Int) (h : Src s a) (hn : 1 ≤ n) (hn' : n ≤ 9223372036854775807) : EvP (fun _ => shapesearchkeep_Src_N.f s a n) (fun r => Src s r.2 ∧ 0 ≤ r.1 ∧ r.1 < n) := by
  unfold shapesearchkeep_Src_N.f
  refine EvP.bind (keep_Raw s a h) (fun x hx => EvP.bind (keep_Mod x.1 n hx.2.1 hx.2.2 hn hn') (fun t ht => EvP.ret ⟨hx.1, ht⟩))
theorem keep_Range (s : List Int) (a lo hi : Int) (h : Src s a) (hlo : -1000000000000 ≤ lo) (hlh : lo ≤ hi) (hhi : hi ≤ 1000000000000) : EvP (fun _ => shapesearchkeep_Src_Range.f s a lo hi) (fun r => Src s r.2 ∧ lo ≤ r.1 ∧ r.1 ≤ hi) := by
  have e1 : wrap64 (hi - lo) = hi - lo := w64 (by omega) (by omega)
  have e2 : wrap64 (hi - lo + 1) = hi - lo + 1 := w64 (by omega) (by omega)
  unfold shapesearchkeep_Src_Range.f
  rw [e1, e2]
  refine EvP.bind (keep_N s a (hi - lo + 1) h (by omega) (by omega)) (fun x hx => EvP.ret ⟨hx.1, ?_⟩)
  have e3 : wrap64 (lo + x.1) = lo + x.1 := w64 (by omega) (by omega)
  show lo ≤ wrap64 (lo + x.1) ∧ wrap64 (lo + x.1) ≤ hi
  rw [e3]
  omega
theorem keep_Pick (s : List Int) (a : Int) (l : List Int) (h : Src s a) (hl : 1 ≤ l.length) (hl' : l.length ≤ 1000000) : EvP (fun _ => shapesearchkeep_Src_Pick.f s a l) (fun r => Src s r.2 ∧ r.1 ∈ l) := by
  unfold shapesearchkeep_Src_Pick.f
  exact EvP.bind (keep_N s a l.length h (by omega) (by omega)) (fun x hx => EvP.pos hx.2.1 (EvP.pos hx.2.2 (EvP.ret ⟨hx.1, rd_mem l x.1 hx.2.1 hx.2.2⟩)))
/-! ### strings of bytes -/
def bts (l : List Int) : Prop := ∀ x ∈ l, 0 ≤ x ∧ x ≤ 255
theorem toList_loop (bs : ByteArray) (d : Nat) : ∀ (i : Nat) (r : List UInt8), i + d = bs.size → ByteArray.toList.loop bs i r = r.reverse ++ bs.data.toList.drop i := by
  induction d with
  | zero =>
    intro i r hi
    unfold ByteArray.toList.loop
    rw [if_neg (by omega), show bs.data.toList.drop i = [] from List.drop_eq_nil_of_le (by rw [Array.length_toList]; show bs.size ≤ i; omega), List.append_nil]
  | succ d ih =>
    intro i r hi
    have hlt : i < bs.data.toList.length := by rw [Array.length_toList]; show i < bs.size; omega
    unfold ByteArray.toList.loop
    rw [if_pos (by omega), ih (i + 1) _ (by omega), List.drop_eq_getElem_cons hlt]
    have e : bs.get! i = bs.data.toList[i] := by
      rw [Array.getElem_toList]
      show bs.data[i]! = _
      exact getElem!_pos bs.data i (by rw [← Array.length_toList]; exact hlt)
    rw [e]
    simp
theorem toList_data (bs : ByteArray) : bs.toList = bs.data.toList := toList_loop bs bs.size 0 [] (by omega)
theorem str_inj {A B : List Int} (hA : bts A) (hB : bts B) (h : (strOfNums A).toList = (strOfNums B).toList) : A = B := by
  rw [toList_data, toList_data] at h
  have h' : A.map (fun n => UInt8.ofNat n.toNat) = B.map (fun n => UInt8.ofNat n.toNat) := h
  have back : ∀ C : List Int, bts C → (C.map (fun n => UInt8.ofNat n.toNat)).map (fun u => (u.toNat : Int)) = C := by
    intro C hC
    rw [List.map_map]
    refine (List.map_congr_left (fun x hx => ?_)).trans (List.map_id C)
    have := hC x hx
    show ((UInt8.ofNat x.toNat).toNat : Int) = x
    rw [UInt8.toNat_ofNat']
    omega
  rw [← back A hA, ← back B hB, h']
/-! ### what is written can be told apart -/
theorem encN_bts : ∀ (k u : Nat), u < k → bts (encN u)
  | 0, u, h => absurd h (Nat.not_lt_zero _)
  | k + 1, u, h => by
    intro x hx
    by_cases hu : u < 128
    · rw [encN_short hu] at hx
      have : x = (u : Int) := by simpa using hx
      omega
    · rw [encN_long hu] at hx
      rcases List.mem_cons.1 hx with rfl | hx
      · omega
      · exact encN_bts k (u / 128) (by omega) x hx
theorem encN_cancel : ∀ (k u : Nat), u < k → ∀ (v : Nat) (l m : List Int), encN u ++ l = encN v ++ m → u = v ∧ l = m
  | 0, u, h, _, _, _, _ => absurd h (Nat.not_lt_zero _)
  | k + 1, u, h, v, l, m, e => by
    by_cases hu : u < 128
    · rw [encN_short hu] at e
      by_cases hv : v < 128
      · rw [encN_short hv] at e
        have e' := List.cons.inj (show (u : Int) :: l = (v : Int) :: m from e)
        exact ⟨by omega, e'.2⟩
      · rw [encN_long hv] at e
        have e' := List.cons.inj (show (u : Int) :: l = ((v % 128 + 128 : Nat) : Int) :: (encN (v / 128) ++ m) from e)
        omega
    · rw [encN_long hu] at e
      by_cases hv : v < 128
      · rw [encN_short hv] at e
        have e' := List.cons.inj (show ((u % 128 + 128 : Nat) : Int) :: (encN (u / 128) ++ l) = (v : Int) :: m from e)
        omega
      · rw [encN_long hv] at e
        have e' := List.cons.inj (show ((u % 128 + 128 : Nat) : Int) :: (encN (u / 128) ++ l) = ((v % 128 + 128 : Nat) : Int) :: (encN (v / 128) ++ m) from e)
        have ih := encN_cancel k (u / 128) (by omega) (v / 128) l m e'.2
        exact ⟨by omega, ih.2⟩
theorem foldN_inj {a b : Int} (h : foldN a = foldN b) : a = b := by
  unfold foldN at h
  split at h <;> split at h <;> omega
theorem enc_cancel {a b : Int} {l m : List Int} (e : encN (foldN a) ++ l = encN (foldN b) ++ m) : a = b ∧ l = m := by
  have h := encN_cancel _ (foldN a) (Nat.lt_succ_self _) (foldN b) l m e
  exact ⟨foldN_inj h.1, h.2⟩
theorem encR_bts : ∀ (l : List S25) (p q : Int), bts (encR p q l)
  | [], _, _ => fun x h => by cases h
  | r :: l, p, q => by
    intro x hx
    rcases List.mem_append.1 (show x ∈ (encN (foldN (r.f0 - p)) ++ encN (foldN (r.f1 - q))) ++ encR r.f0 r.f1 l from hx) with h | h
    · rcases List.mem_append.1 h with h | h
      · exact encN_bts _ _ (Nat.lt_succ_self _) x h
      · exact encN_bts _ _ (Nat.lt_succ_self _) x h
    · exact encR_bts l r.f0 r.f1 x h
theorem encR_inj : ∀ (x y : List S25) (p q : Int), x.length = y.length → encR p q x = encR p q y → x = y
  | [], [], _, _, _, _ => rfl
  | [], s :: y, _, _, h, _ => by cases h
  | r :: x, [], _, _, h, _ => by cases h
  | r :: x, s :: y, p, q, h, e => by
    have e' : encN (foldN (r.f0 - p)) ++ (encN (foldN (r.f1 - q)) ++ encR r.f0 r.f1 x) = encN (foldN (s.f0 - p)) ++ (encN (foldN (s.f1 - q)) ++ encR s.f0 s.f1 y) := by
      rw [← List.append_assoc, ← List.append_assoc]
      exact e
    obtain ⟨c1, e2⟩ := enc_cancel e'
    obtain ⟨c2, e3⟩ := enc_cancel e2
    obtain ⟨r0, r1⟩ := r
    obtain ⟨s0, s1⟩ := s
    dsimp only at c1 c2 e3
    have h0 : r0 = s0 := by omega
    have h1 : r1 = s1 := by omega
    subst h0
    subst h1
    rw [encR_inj x y _ _ (by simpa using h) e3]
def bodyB (l : List S25) : List Int := ([84, 83, 49] ++ encN (foldN (l.length : Int))) ++ encR 0 0 l
theorem sealB_bts {b : List Int} (h : bts b) : bts (sealB b) := by
  intro x hx
  unfold sealB at hx
  rcases List.mem_append.1 hx with hx | hx
  · exact h x hx
  · generalize X.crc b = c at hx
    simp only [List.mem_cons, List.not_mem_nil, or_false] at hx
    omega
theorem bodyB_bts (l : List S25) : bts (bodyB l) := by
  intro x hx
  rcases List.mem_append.1 hx with h | h
  · rcases List.mem_append.1 h with h | h
    · simp only [List.mem_cons, List.not_mem_nil, or_false] at h
      omega
    · exact encN_bts _ _ (Nat.lt_succ_self _) x h
  · exact encR_bts l 0 0 x h
theorem sealB_inj {a b : List Int} (h : sealB a = sealB b) : a = b := by
  unfold sealB at h
  have hl : a.length = b.length := by
    have := congrArg List.length h
    simpa using this
  exact (List.append_inj h hl).1
theorem bodyB_inj {x y : List S25} (h : bodyB x = bodyB y) : x = y := by
  unfold bodyB at h
  rw [List.append_assoc, List.append_assoc] at h
  have h1 := List.append_cancel_left h
  obtain ⟨c, h2⟩ := enc_cancel h1
  exact encR_inj x y 0 0 (by omega) h2
/-! ### readings out of a list -/
theorem mul_abs' {u v : Int} (h1 : -30 ≤ u) (h2 : u ≤ 30) (h3 : 1 ≤ v) (h4 : v ≤ 33) : -990 ≤ u * v ∧ u * v ≤ 990 := by
  have a1 := Int.mul_nonneg (show 0 ≤ u + 30 by omega) (show 0 ≤ v by omega)
  have a2 := Int.mul_nonneg (show 0 ≤ 30 - u by omega) (show 0 ≤ v by omega)
  rw [Int.add_mul] at a1
  rw [Int.sub_mul] at a2
  omega
theorem keep_Readings (s : List Int) (a : Int) (h : Src s a) (n : Int) (hn : 0 ≤ n) (hn' : n ≤ 1000) : EvP (fun k => shapesearchkeep_Src_Readings.f k s a n) (fun r => Src s r.2 ∧ (∀ x ∈ r.1, Vrd x) ∧ r.1.length ≤ n) := by
  unfold shapesearchkeep_Src_Readings.f
  rw [w64 (n := n + 1) (by omega) (by omega)]
  refine EvP.bind (keep_Pick s a [0, 5, 1000, 1099511627576] h (by simp) (by simp)) (fun p hp => EvP.bind (keep_N s p.2 (n + 1) hp.1 (by omega) (by omega)) (fun q hq => ?_))
  have key : ∀ (d : Nat) (out : List S25) (t c a' : Int), c = d → out.length + c ≤ n → (∀ x ∈ out, Vrd x) → 0 ≤ t → t ≤ 1099511627776 → Src s a' →
      EvP (fun k => shapesearchkeep_Src_Readings.l0 k out t c s a') (fun r => Src s r.2 ∧ (∀ x ∈ r.1, Vrd x) ∧ r.1.length ≤ n) := by
    intro d
    induction d with
    | zero =>
      intro out t c a' hc ho hv t0 t1 hs
      exact EvP.step (fun k => by rw [shapesearchkeep_Src_Readings.l0]) (EvP.neg (by omega) (EvP.ret ⟨hs, hv, by dsimp only; omega⟩))
    | succ d ih =>
      intro out t c a' hc ho hv t0 t1 hs
      refine EvP.step (fun k => by rw [shapesearchkeep_Src_Readings.l0]) (EvP.pos (by omega) ?_)
      refine EvP.bind (keep_Pick s a' [0, 1, 1, 3, 10, -2] hs (by simp) (by simp)) (fun u hu => EvP.bind (keep_Range s u.2 (-30) 30 hu.1 (by omega) (by omega) (by omega)) (fun v hv' => EvP.bind (keep_Pick s v.2 [1, 1, 33] hv'.1 (by simp) (by simp)) (fun z hz => EvP.pos (by omega) ?_)))
      have z1 : 1 ≤ z.1 ∧ z.1 ≤ 33 := by
        have := hz.2
        simp at this
        omega
      have m1 := mul_abs' hv'.2.1 hv'.2.2 z1.1 z1.2
      rw [w64 (n := v.1 * z.1) (by omega) (by omega), w64 (n := c - 1) (by omega) (by omega)]
      have g0 : 0 ≤ mx 0 (mn 1099511627776 (wrap64 (t + u.1))) := le_mx_left _ _
      have g1 : mx 0 (mn 1099511627776 (wrap64 (t + u.1))) ≤ 1099511627776 := mx_le (by omega) (mn_le_left _ _)
      generalize mx 0 (mn 1099511627776 (wrap64 (t + u.1))) = t' at *
      refine ih _ t' (c - 1) z.2 (by omega) (by rw [List.length_append, List.length_singleton]; omega) (fun x hx => ?_) g0 g1 hz.1
      rcases List.mem_append.1 hx with hx | hx
      · exact hv x hx
      · have : x = ⟨t', v.1 * z.1⟩ := by simpa using hx
        subst this
        exact ⟨g0, g1, by dsimp only; omega, by dsimp only; omega⟩
  have hp2 := hp.2
  simp at hp2
  exact key q.1.toNat [] p.1 q.1 q.2 (by omega) (by simp; omega) (fun x h => by cases h) (by omega) (by omega) hq.1
/-! ### what Decode makes of bytes -/
theorem shr32 (c : Int) : shr .u32 c 0 = c ∧ shr .u32 c 8 = c / 256 ∧ shr .u32 c 16 = c / 65536 ∧ shr .u32 c 24 = c / 16777216 := by
  refine ⟨?_, rfl, rfl, rfl⟩
  show c / 1 = c
  omega
theorem sums_iff (l : List Int) : packet_Decode.sums l = true ↔ (rd l ((l.length : Int) - 4 + 0) = X.crc (l.take ((l.length : Int) - 4).toNat) % 256 ∧ rd l ((l.length : Int) - 4 + 1) = X.crc (l.take ((l.length : Int) - 4).toNat) / 256 % 256 ∧ rd l ((l.length : Int) - 4 + 2) = X.crc (l.take ((l.length : Int) - 4).toNat) / 65536 % 256 ∧ rd l ((l.length : Int) - 4 + 3) = X.crc (l.take ((l.length : Int) - 4).toNat) / 16777216 % 256) := by
  have e : List.range 4 = [0, 1, 2, 3] := by decide
  unfold packet_Decode.sums
  rw [e]
  generalize X.crc (l.take ((l.length : Int) - 4).toNat) = c
  obtain ⟨s0, s1, s2, s3⟩ := shr32 c
  simp only [List.all_cons, List.all_nil, Bool.and_true, Bool.and_eq_true, beq_iff_eq]
  have m0 : 8 * ((0 : Nat) : Int) = 0 := rfl
  have m1 : 8 * ((1 : Nat) : Int) = 8 := rfl
  have m2 : 8 * ((2 : Nat) : Int) = 16 := rfl
  have m3 : 8 * ((3 : Nat) : Int) = 24 := rfl
  rw [m0, m1, m2, m3, s0, s1, s2, s3]
  exact Iff.rfl
theorem take_seal (b : List Int) : (sealB b).take (((sealB b).length : Int) - 4).toNat = b := by
  have e : (((sealB b).length : Int) - 4).toNat = b.length := by unfold sealB; rw [List.length_append]; simp
  rw [e]
  unfold sealB
  exact List.take_left
theorem rd_app (b s : List Int) (i : Nat) : rd (b ++ s) ((b.length : Int) + (i : Int)) = s.getD i 0 := by
  have e : ((b.length : Int) + (i : Int)).toNat = b.length + i := by omega
  unfold rd
  rw [e, List.getD_eq_getElem?_getD, List.getElem?_append_right (by omega), show b.length + i - b.length = i by omega, List.getD_eq_getElem?_getD]
theorem sums_seal (b : List Int) : packet_Decode.sums (sealB b) = true := by
  rw [sums_iff, take_seal]
  have e : ((sealB b).length : Int) - 4 = (b.length : Int) := by unfold sealB; rw [List.length_append]; simp
  rw [e]
  unfold sealB
  generalize X.crc b = c
  exact ⟨rd_app b _ 0, rd_app b _ 1, rd_app b _ 2, rd_app b _ 3⟩
theorem in_seal (b : List Int) : packet_Decode.in_ (sealB b) = b.drop 3 := by
  unfold packet_Decode.in_
  rw [take_seal]
  rfl
theorem seal_of (l : List Int) (h : 4 ≤ l.length) (hs : packet_Decode.sums l = true) : l = sealB (l.take (l.length - 4)) := by
  obtain ⟨s0, s1, s2, s3⟩ := (sums_iff l).1 hs
  have e : ((l.length : Int) - 4).toNat = l.length - 4 := by omega
  rw [e] at s0 s1 s2 s3
  have hl : (l.take (l.length - 4)).length = l.length - 4 := by rw [List.length_take]; omega
  unfold sealB
  refine List.ext_getElem (by rw [List.length_append, hl]; simp; omega) (fun i h1 h2 => ?_)
  by_cases hi : i < l.length - 4
  · rw [List.getElem_append_left (by rw [hl]; exact hi), List.getElem_take]
  · rw [List.getElem_append_right (by rw [hl]; omega)]
    have key : ∀ q : Nat, q < 4 → i = l.length - 4 + q → l[i] = rd l ((l.length : Int) - 4 + (q : Int)) := by
      intro q hq e2
      have e3 : ((l.length : Int) - 4 + (q : Int)) = ((l.length - 4 + q : Nat) : Int) := by omega
      rw [e3, rd_nat l _ (by omega)]
      subst e2
      rfl
    have hq : i = l.length - 4 + 0 ∨ i = l.length - 4 + 1 ∨ i = l.length - 4 + 2 ∨ i = l.length - 4 + 3 := by omega
    rcases hq with hq | hq | hq | hq
    · rw [key 0 (by decide) hq]
      refine s0.trans ?_
      have : i - (l.take (l.length - 4)).length = 0 := by rw [hl]; omega
      simp only [this]
      rfl
    · rw [key 1 (by decide) hq]
      refine s1.trans ?_
      have : i - (l.take (l.length - 4)).length = 1 := by rw [hl]; omega
      simp only [this]
      rfl
    · rw [key 2 (by decide) hq]
      refine s2.trans ?_
      have : i - (l.take (l.length - 4)).length = 2 := by rw [hl]; omega
      simp only [this]
      rfl
    · rw [key 3 (by decide) hq]
      refine s3.trans ?_
      have : i - (l.take (l.length - 4)).length = 3 := by rw [hl]; omega
      simp only [this]
      rfl
theorem near_is {p d : Int} (p1 : -1099511627776 ≤ p) (p2 : p ≤ 1099511627776) (h1 : -4398046511104 ≤ d) (h2 : d ≤ 4398046511104) : packet_near.f p d = some (p + d) := by
  have e : mn (mx d (-4398046511104)) 4398046511104 = d := by
    unfold mn mx
    split <;> split <;> omega
  unfold packet_near.f
  rw [e, w64 (by omega) (by omega)]
theorem near_far {p d : Int} (p1 : -1099511627776 ≤ p) (p2 : p ≤ 1099511627776) (h : ¬ (-4398046511104 ≤ d ∧ d ≤ 4398046511104)) : ∃ x, packet_near.f p d = some x ∧ (x < -2199023255552 ∨ 2199023255552 < x) := by
  by_cases h1 : d < 0
  · have e : mn (mx d (-4398046511104)) 4398046511104 = -4398046511104 := by
      unfold mn mx
      split <;> split <;> omega
    exact ⟨p + -4398046511104, by unfold packet_near.f; rw [e, w64 (by omega) (by omega)], by omega⟩
  · have e : mn (mx d (-4398046511104)) 4398046511104 = 4398046511104 := by
      unfold mn mx
      split <;> split <;> omega
    exact ⟨p + 4398046511104, by unfold packet_near.f; rw [e, w64 (by omega) (by omega)], by omega⟩
theorem valid_any (x y : Int) : ∃ v : Bool, packet_valid.f x y = some v ∧ (v = true ↔ Vrd ⟨x, y⟩) := by
  unfold packet_valid.f Vrd
  by_cases h1 : x ≥ 0
  · rw [if_pos h1]
    by_cases h2 : x ≤ 1099511627776
    · rw [if_pos h2]
      by_cases h3 : y ≥ -1000
      · rw [if_pos h3]
        exact ⟨_, rfl, by rw [decide_eq_true_iff]; exact ⟨fun h => ⟨h1, h2, h3, h⟩, fun h => h.2.2.2⟩⟩
      · rw [if_neg h3]
        exact ⟨_, rfl, ⟨fun h => (by cases h), fun h => absurd h.2.2.1 h3⟩⟩
    · rw [if_neg h2]
      exact ⟨_, rfl, ⟨fun h => (by cases h), fun h => absurd h.2.1 h2⟩⟩
  · rw [if_neg h1]
    exact ⟨_, rfl, ⟨fun h => (by cases h), fun h => absurd h.1 h1⟩⟩
theorem Decode_loop (b : List Int) (x : List S25) (hv : ∀ r ∈ x, Vrd r) (hx : x.length ≤ 40) (d : Nat) :
    ∀ (i : Nat) (pre : List Int) (p q : Int) (out : List S25), i + d = x.length → b = pre ++ encR p q (x.drop i) → pre.length ≤ 10 + 20 * i → 0 ≤ p → p ≤ 1099511627776 → -1000 ≤ q → q ≤ 1000 → out.length = i →
      Ev (fun k => packet_Decode.l0 k b (x.length : Int) (i : Int) (pre.length : Int) p q out) (out ++ x.drop i, 0) := by
  induction d with
  | zero =>
    intro i pre p q out hi hb hp p0 p1 q0 q1 ho
    refine Ev.step (fun k => by rw [packet_Decode.l0]) (Ev.neg (by omega) ?_)
    rw [show x.drop i = [] from List.drop_eq_nil_of_le (by omega)] at hb ⊢
    rw [List.append_nil]
    refine Ev.pos ?_ (Ev.now _)
    rw [hb]
    simp [encR]
  | succ d ih =>
    intro i pre p q out hi hb hp p0 p1 q0 q1 ho
    have hlt : i < x.length := by omega
    have hr := hv x[i] (List.getElem_mem _)
    have hr' := hr
    obtain ⟨h1, h2, h3, h5⟩ := hr'
    rw [List.drop_eq_getElem_cons hlt] at hb ⊢
    generalize x[i] = r at *
    have hb1 : b = pre ++ (encN (foldN (r.f0 - p)) ++ (encN (foldN (r.f1 - q)) ++ encR r.f0 r.f1 (x.drop (i + 1)))) := by rw [hb]; simp only [encR, List.append_assoc]
    have hb2 : b = (pre ++ encN (foldN (r.f0 - p))) ++ (encN (foldN (r.f1 - q)) ++ encR r.f0 r.f1 (x.drop (i + 1))) := by rw [hb1, List.append_assoc]
    have hb3 : b = (pre ++ encN (foldN (r.f0 - p)) ++ encN (foldN (r.f1 - q))) ++ encR r.f0 r.f1 (x.drop (i + 1)) := by rw [hb2, List.append_assoc _ _ (encR _ _ _)]
    have a1 := encN_ten (foldN_lt (n := r.f0 - p) (by omega) (by omega))
    have a2 := encN_ten (foldN_lt (n := r.f1 - q) (by omega) (by omega))
    have i1 := int_is pre (encN (foldN (r.f1 - q)) ++ encR r.f0 r.f1 (x.drop (i + 1))) (by omega) (n := r.f0 - p) (by omega) (by omega)
    have i2 := int_is (pre ++ encN (foldN (r.f0 - p))) (encR r.f0 r.f1 (x.drop (i + 1))) (by rw [List.length_append]; omega) (n := r.f1 - q) (by omega) (by omega)
    rw [← hb1] at i1
    rw [← hb2, ← List.length_append] at i2
    rw [← List.length_append] at i1
    have n1 := near_is (p := p) (d := r.f0 - p) (by omega) (by omega) (by omega) (by omega)
    have n2 := near_is (p := q) (d := r.f1 - q) (by omega) (by omega) (by omega) (by omega)
    rw [show p + (r.f0 - p) = r.f0 by omega] at n1
    rw [show q + (r.f1 - q) = r.f1 by omega] at n2
    refine Ev.step (fun k => by rw [packet_Decode.l0]) (Ev.pos (by omega) (Ev.bind i1 (Ev.pos rfl (Ev.bind i2 (Ev.pos rfl ?_)))))
    dsimp only
    rw [n1, n2]
    simp only [Option.bind_some]
    rw [valid_is hr]
    simp only [Option.bind_some]
    rw [w_succ (by omega)]
    have := ih (i + 1) (pre ++ encN (foldN (r.f0 - p)) ++ encN (foldN (r.f1 - q))) r.f0 r.f1 (out ++ [r]) (by omega) hb3 (by rw [List.length_append, List.length_append]; omega) h1 h2 h3 h5 (by rw [List.length_append, List.length_singleton]; omega)
    rw [List.append_assoc out, List.singleton_append] at this
    exact Ev.pos trivial (Ev.pos (by omega) this)
theorem body_len (x : List S25) (hv : ∀ r ∈ x, Vrd r) (hx : x.length ≤ 2000) : 4 ≤ (bodyB x).length ∧ (bodyB x).length ≤ 13 + 20 * x.length := by
  have a := encN_ten (foldN_lt (n := (x.length : Int)) (by omega) (by omega))
  have a' := encN_pos (foldN (x.length : Int))
  have b := encR_len x hv 0 0 (by omega) (by omega) (by omega) (by omega)
  unfold bodyB
  rw [List.length_append, List.length_append, show ([84, 83, 49] : List Int).length = 3 from rfl]
  omega
theorem seal_len (b : List Int) : (sealB b).length = b.length + 4 := by
  unfold sealB
  rw [List.length_append]
  rfl
theorem three_is (b : List Int) (post : List Int) (h : b = [84, 83, 49] ++ post) : (strOfNums ((sealB b).take 3)).toList = [84, 83, 49] := by
  subst h
  have e : (sealB ([84, 83, 49] ++ post)).take 3 = [84, 83, 49] := rfl
  rw [e]
  decide +kernel
theorem Decode_is (x : List S25) (hv : ∀ r ∈ x, Vrd r) (hx : x.length ≤ 40) : Ev (fun k => packet_Decode.f k (sealB (bodyB x))) (x, 0) := by
  have hl := body_len x hv (by omega)
  unfold packet_Decode.f
  refine Ev.neg (by rw [seal_len]; omega) (Ev.pos (by rw [seal_len]; omega) (Ev.pos (three_is _ (encN (foldN (x.length : Int)) ++ encR 0 0 x) (by unfold bodyB; rw [List.append_assoc])) (Ev.pos (sums_seal _) ?_)))
  rw [in_seal]
  have e : (bodyB x).drop 3 = encN (foldN (x.length : Int)) ++ encR 0 0 x := by unfold bodyB; rw [List.append_assoc]; rfl
  rw [e]
  have i1 := int_is [] (encR 0 0 x) (by simp) (n := (x.length : Int)) (by omega) (by omega)
  have a := encN_ten (foldN_lt (n := (x.length : Int)) (by omega) (by omega))
  have h := Decode_loop (encN (foldN (x.length : Int)) ++ encR 0 0 x) x hv hx x.length 0 (encN (foldN (x.length : Int))) 0 0 [] (by omega) rfl (by omega) (by omega) (by omega) (by omega) (by omega) rfl
  rw [List.nil_append, List.length_nil, Nat.zero_add] at i1
  refine Ev.bind i1 (Ev.pos rfl (Ev.neg ?_ ?_))
  · dsimp only
    omega
  · exact h
/-- What Decode makes of the rest of some bytes: readings, and just these bytes; or an error. -/
def DecR (b : List Int) (p0 : Nat) (p q : Int) (out : List S25) (d : Nat) (r : List S25 × Int) : Prop :=
  (r.2 = 0 ∧ ∃ l : List S25, r.1 = out ++ l ∧ l.length = d ∧ (∀ s ∈ l, Vrd s) ∧ b.drop p0 = encR p q l) ∨ (r.2 ≠ 0 ∧ r.1 = [])
theorem Decode_loop_any (b : List Int) (hb : ∀ x ∈ b, 0 ≤ x ∧ x ≤ 255) (hl : b.length ≤ 900) (n : Nat) (hn : n ≤ 2000) (d : Nat) :
    ∀ (i p0 : Nat) (p q : Int) (out : List S25), i + d = n → p0 ≤ b.length → 0 ≤ p → p ≤ 1099511627776 → -1000 ≤ q → q ≤ 1000 → out.length = i →
      EvP (fun k => packet_Decode.l0 k b (n : Int) (i : Int) (p0 : Int) p q out) (DecR b p0 p q out d) := by
  induction d with
  | zero =>
    intro i p0 p q out hi hp p1 p2 q1 q2 ho
    refine EvP.step (fun k => by rw [packet_Decode.l0]) (EvP.neg (by omega) (EvP.ite (fun h => EvP.ret (.inl ⟨rfl, [], by simp, rfl, fun s h => (by cases h), ?_⟩)) (fun h => EvP.ret (.inr ⟨by decide, rfl⟩))))
    rw [List.drop_eq_nil_of_le (by omega)]
    rfl
  | succ d ih =>
    intro i p0 p q out hi hp p1 p2 q1 q2 ho
    refine EvP.step (fun k => by rw [packet_Decode.l0]) ?_
    refine EvP.pos (by omega) (EvP.bind (int_any b hb p0 hp (by omega)) (fun t ht => ?_))
    refine EvP.ite (fun ht0 => ?_) (fun ht0 => EvP.ret (.inr ⟨ht0, rfl⟩))
    obtain ⟨t1, t2, e, te, te1, te2, tb⟩ := ht ht0
    rw [te]
    refine EvP.bind (int_any b hb e te2 (by omega)) (fun u hu => ?_)
    refine EvP.ite (fun hu0 => ?_) (fun hu0 => EvP.ret (.inr ⟨hu0, rfl⟩))
    obtain ⟨u1, u2, f, ue, ue1, ue2, ub⟩ := hu hu0
    rw [ue]
    generalize t.1 = d0 at *
    generalize u.1 = d1 at *
    have hx : ∃ x, packet_near.f p d0 = some x ∧ (0 ≤ x → x ≤ 1099511627776 → d0 = x - p) := by
      by_cases h : -4398046511104 ≤ d0 ∧ d0 ≤ 4398046511104
      · exact ⟨_, near_is (by omega) (by omega) h.1 h.2, fun _ _ => by omega⟩
      · obtain ⟨x, hx, hf⟩ := near_far (p := p) (d := d0) (by omega) (by omega) h
        exact ⟨x, hx, fun _ _ => by omega⟩
    have hy : ∃ y, packet_near.f q d1 = some y ∧ (-1000 ≤ y → y ≤ 1000 → d1 = y - q) := by
      by_cases h : -4398046511104 ≤ d1 ∧ d1 ≤ 4398046511104
      · exact ⟨_, near_is (by omega) (by omega) h.1 h.2, fun _ _ => by omega⟩
      · obtain ⟨y, hy, hf⟩ := near_far (p := q) (d := d1) (by omega) (by omega) h
        exact ⟨y, hy, fun _ _ => by omega⟩
    obtain ⟨x, hx, hxd⟩ := hx
    obtain ⟨y, hy, hyd⟩ := hy
    obtain ⟨v, hv, hvi⟩ := valid_any x y
    rw [hx, hy]
    simp only [Option.bind_some]
    rw [hv]
    simp only [Option.bind_some]
    refine EvP.ite (fun h => ?_) (fun h => EvP.ret (.inr ⟨by decide, rfl⟩))
    have hV := hvi.1 h
    obtain ⟨v1, v2, v3, v4⟩ := hV
    dsimp only at v1 v2 v3 v4
    rw [w_succ (by omega)]
    refine EvP.pos (by omega) ((ih (i + 1) f x y (out ++ [⟨x, y⟩]) (by omega) ue2 v1 v2 v3 v4 (by rw [List.length_append, List.length_singleton]; omega)).mono (fun r hr => ?_))
    rcases hr with ⟨r0, l, l1, l2, l3, l4⟩ | hr
    · refine .inl ⟨r0, ⟨x, y⟩ :: l, by rw [l1, List.append_assoc]; rfl, by rw [List.length_cons, l2], fun s hs => ?_, ?_⟩
      · rcases List.mem_cons.1 hs with rfl | hs
        · exact hvi.1 h
        · exact l3 s hs
      · show b.drop p0 = encN (foldN (x - p)) ++ encN (foldN (y - q)) ++ encR x y l
        rw [tb, ub, l4, hxd v1 v2, hyd v3 v4, List.append_assoc]
    · exact .inr hr
theorem three_of (l : List Int) (hl : ∀ x ∈ l, 0 ≤ x ∧ x ≤ 255) (h : (strOfNums (l.take 3)).toList = [84, 83, 49]) : l.take 3 = [84, 83, 49] :=
  str_inj (B := [84, 83, 49]) (fun x hx => hl x (List.mem_of_mem_take hx)) (fun x hx => by simp at hx; omega) (h.trans (by decide +kernel))
theorem Decode_any (l : List Int) (hb : ∀ x ∈ l, 0 ≤ x ∧ x ≤ 255) (hl : l.length ≤ 900) :
    EvP (fun k => packet_Decode.f k l) (fun r => (r.2 = 0 ∧ (∀ s ∈ r.1, Vrd s) ∧ r.1.length ≤ 2000 ∧ l = sealB (bodyB r.1)) ∨ (r.2 ≠ 0 ∧ r.1 = [])) := by
  unfold packet_Decode.f
  refine EvP.ite (fun h => EvP.ret (.inr ⟨by decide, rfl⟩)) (fun h => EvP.pos (by omega) (EvP.ite (fun h3 => EvP.ite (fun hs => ?_) (fun hs => EvP.ret (.inr ⟨by decide, rfl⟩))) (fun h3 => EvP.ret (.inr ⟨by decide, rfl⟩))))
  have e3 := three_of l hb h3
  have es := seal_of l (by omega) hs
  have hin : packet_Decode.in_ l = (l.take (l.length - 4)).drop 3 := by
    unfold packet_Decode.in_
    rw [show ((l.length : Int) - 4).toNat = l.length - 4 by omega]
    rfl
  have hbb : ∀ x ∈ packet_Decode.in_ l, 0 ≤ x ∧ x ≤ 255 := fun x hx => by
    rw [hin] at hx
    exact hb x (List.mem_of_mem_take (List.mem_of_mem_drop hx))
  have hlen : (packet_Decode.in_ l).length = l.length - 7 := by rw [hin, List.length_drop, List.length_take]; omega
  have h0 := int_any (packet_Decode.in_ l) hbb 0 (by omega) (by omega)
  refine EvP.bind h0 (fun t ht => EvP.ite (fun ht0 => EvP.ite (fun hn => EvP.ret (.inr ⟨by decide, rfl⟩)) (fun hn => ?_)) (fun ht0 => EvP.ret (.inr ⟨ht0, rfl⟩)))
  obtain ⟨t1, t2, e, te, te1, te2, tb⟩ := ht ht0
  obtain ⟨n, hn'⟩ := Int.eq_ofNat_of_zero_le (show 0 ≤ t.1 by omega)
  have hn2 : n ≤ 2000 := by omega
  rw [te, hn']
  rw [hn'] at tb
  refine (Decode_loop_any (packet_Decode.in_ l) hbb (by omega) n (by omega) n 0 e 0 0 [] (by omega) te2 (by omega) (by omega) (by omega) (by omega) rfl).mono (fun r hr => ?_)
  rcases hr with ⟨r0, z, z1, z2, z3, z4⟩ | hr
  · rw [List.nil_append] at z1
    rw [z1]
    refine .inl ⟨r0, z3, by omega, ?_⟩
    rw [es]
    congr 1
    unfold bodyB
    rw [z2, List.append_assoc, ← z4, ← tb, List.drop_zero, hin]
    conv => lhs; rw [← List.take_append_drop 3 (l.take (l.length - 4))]
    rw [List.take_take, Nat.min_eq_left (by omega), e3]
  · exact .inr hr
theorem crc_word (l : List Int) (hl : bts l) : 0 ≤ X.crc l ∧ X.crc l < 4294967296 := by
  obtain ⟨r, h1, h2, _⟩ := crcFrom_reg l hl 4294967295 (by decide)
  have e : X.crc l = Go.bits .xor .u32 ((4294967295 : Nat) : Int) (r : Int) := by
    have h2' : crcFrom 4294967295 l = (r : Int) := h2
    show Go.bits .xor .u32 4294967295 (crcFrom 4294967295 l) = _
    rw [h2']
    rfl
  rw [e, xor_u32 _ _ (by decide) h1]
  have := word_xor (a := 4294967295) (b := r) (by decide) h1
  omega
theorem bad_not {b : List Int} (hb : bts b) (i : Nat) (v : Int) (hv : 0 ≤ v) (hv' : v ≤ 255) (hi : i < (sealB b).length) (hne : (sealB b)[i] ≠ v) (l : List Int) : (sealB b).set i v ≠ sealB l := by
  intro he
  have hlen : b.length = l.length := by
    have := congrArg List.length he
    rw [List.length_set, seal_len, seal_len] at this
    omega
  by_cases h : i < b.length
  · have e1 : (sealB b).set i v = b.set i v ++ [(X.crc b) % 256, (X.crc b / 256) % 256, (X.crc b / 65536) % 256, (X.crc b / 16777216) % 256] := by
      unfold sealB
      rw [List.set_append_left _ _ h]
    rw [e1] at he
    obtain ⟨h1, h2⟩ := List.append_inj he (by rw [List.length_set]; exact hlen)
    have hne' : b[i] ≠ v := by
      intro e
      exact hne ((List.getElem_append_left h).trans e)
    have hc := crc_set hb i v hv hv' h hne'
    have hbs : bts (b.set i v) := fun x hx => by
      rcases List.mem_or_eq_of_mem_set hx with hx | hx
      · exact hb x hx
      · omega
    have w1 := crc_word b hb
    have w2 := crc_word _ hbs
    rw [← h1] at h2
    generalize X.crc (b.set i v) = c at *
    have hc' : ¬ X.crc b = c := hc
    generalize X.crc b = c0 at *
    simp only [List.cons.injEq, and_true] at h2
    omega
  · have e1 : (sealB b).set i v = b ++ ([(X.crc b) % 256, (X.crc b / 256) % 256, (X.crc b / 65536) % 256, (X.crc b / 16777216) % 256].set (i - b.length) v) := by
      unfold sealB
      rw [List.set_append_right _ _ (by omega)]
    rw [e1] at he
    obtain ⟨h1, h2⟩ := List.append_inj he hlen
    subst h1
    apply hne
    have e2 : (sealB b).set i v = sealB b := by rw [e1, h2]; rfl
    have e3 : ((sealB b).set i v)[i]'(by rw [List.length_set]; exact hi) = v := List.getElem_set_self _
    simp only [e2] at e3
    exact e3
theorem dam_j0 (x : List S25) (hv : ∀ r ∈ x, Vrd r) (hx : x.length ≤ 12) (a1 a2 : Int) (h1 : -9223372036854775808 ≤ a1) (h2 : a1 ≤ 9223372036854775807) (h3 : 0 ≤ a2) (h4 : a2 ≤ 255) :
    EvP (fun k => shapesearchlaw06_PacketDamage.j0 k a1 a2 (sealB (bodyB x)) false) (fun b => b = true) := by
  have hl := body_len x hv (by omega)
  have hs := sealB_bts (bodyB_bts x)
  have hsl := seal_len (bodyB x)
  refine EvP.step (fun k => by rw [shapesearchlaw06_PacketDamage.j0]) (EvP.neg (by decide) ?_)
  refine EvP.bind1 (Ev.now _) ?_
  refine EvP.pos (by rw [List.length_nil]; omega) ?_
  refine EvP.bind1 (Ev.now _) ?_
  rw [List.nil_append]
  refine EvP.bind (keep_Mod a1 ((sealB (bodyB x)).length : Int) h1 h2 (by omega) (by omega)) (fun t ht => ?_)
  refine EvP.pos ht.1 (EvP.pos ht.2 ?_)
  obtain ⟨i, rfl⟩ := Int.eq_ofNat_of_zero_le ht.1
  have hi : i < (sealB (bodyB x)).length := by omega
  rw [rd_nat _ i hi, Int.toNat_natCast]
  have hb := hs _ (List.getElem_mem hi)
  have g1 : 1 ≤ mx a2 1 := le_mx_right _ _
  have g2 : mx a2 1 ≤ 255 := mx_le h4 (by decide)
  generalize mx a2 1 = by_ at *
  obtain ⟨c, hc⟩ := Int.eq_ofNat_of_zero_le hb.1
  obtain ⟨d, rfl⟩ := Int.eq_ofNat_of_zero_le (show 0 ≤ by_ by omega)
  have hc8 : c < 256 := by omega
  have hx8 := byte_xor (a := c) (b := d) hc8 (by omega)
  have exor : Go.bits .xor .u8 ((sealB (bodyB x))[i]) (d : Int) = ((c ^^^ d : Nat) : Int) := by rw [hc]; exact xor_u8 c d hc8 (by omega)
  rw [exor]
  have hne : (sealB (bodyB x))[i] ≠ ((c ^^^ d : Nat) : Int) := by
    rw [hc]
    intro e
    have e' : c = c ^^^ d := by omega
    have : c ^^^ 0 = c ^^^ d := by rw [Nat.xor_zero]; exact e'
    have := xor_cancel this
    omega
  have hbad := bad_not (bodyB_bts x) i ((c ^^^ d : Nat) : Int) (by omega) (by omega) hi hne
  refine EvP.bind (Decode_any _ (fun y hy => ?_) (by rw [List.length_set]; omega)) (fun r hr => ?_)
  · rcases List.mem_or_eq_of_mem_set hy with hy | hy
    · exact hs y hy
    · omega
  · rcases hr with ⟨_, _, _, hr⟩ | ⟨hr, _⟩
    · exact absurd hr (hbad _)
    · exact EvP.neg hr (EvP.bind1 awake_is (EvP.ret rfl))
theorem PacketDamage : shapesearchlaw06_PacketDamage.Pure := by
  intro l0 a1 a2 h1 h2 h3 k1 k2
  have q1 := b_i64 k1
  have q2 := b_u8 k2
  refine EvP.rounds ?_
  unfold shapesearchlaw06_PacketDamage.f
  refine EvP.bind (keep_New l0 h3 h1) (fun s hs => EvP.bind (keep_Readings s.1 s.2 hs 12 (by omega) (by omega)) (fun x hx => ?_))
  obtain ⟨_, vx, lx⟩ := hx
  generalize x.1 = x at *
  have hl := body_len x vx (by omega)
  have hsl := seal_len (bodyB x)
  refine EvP.bind1 (Encode_is x vx (by omega)) (EvP.pos rfl ?_)
  have e : decide (((sealB (bodyB x)).length : Int) < 8) = false := decide_eq_false (by omega)
  have e' : decide (((sealB (([84, 83, 49] ++ encN (foldN (x.length : Int))) ++ encR 0 0 x)).length : Int) < 8) = false := e
  dsimp only
  rw [e']
  exact dam_j0 x vx (by omega) a1 a2 q1.1 q1.2 q2.1 q2.2

end Go.Proofs.Ytgmiilolikbekaa.Pure
