/- This file proves that what a segment holds is read back, with its head, and that what is read has these bytes. -/
import Derived.Test.YtdnhfofmfpgmmaaPSegmentBackx11
import Derived.Test.YtdnhfofmfpgmmaaBase
import Derived.Test.YtdnhfofmfpgmmaaMathCrc
set_option linter.unusedVariables false
namespace Go.Proofs.Ytdnhfofmfpgmmaa.Pure
open Go.RowKit Go.Proofs.Ytdnhfofmfpgmmaa.PSegmentBack Go.Proofs.YtdnhfofmfpgmmaaW.PrintWords Go.Proofs.YtdnhfofmfpgmmaaW.PrintLast Go.Proofs.YtdnhfofmfpgmmaaW.PrintMore Go.Proofs.Ytdnhfofmfpgmmaa.Base Go.Proofs.Ytdnhfofmfpgmmaa.X
/-! ### the checksum: each step can be taken back -/
def stepN (x c : Nat) : Nat := (crcT (x % 256 ^^^ c)).toNat ^^^ (x / 256)
theorem byte_xor {a b : Nat} (ha : a < 256) (hb : b < 256) : a ^^^ b < 256 := by
  have := Nat.xor_lt_two_pow (n := 8) ha hb
  exact this
theorem word_xor {a b : Nat} (ha : a < 4294967296) (hb : b < 4294967296) : a ^^^ b < 4294967296 := by
  have := Nat.xor_lt_two_pow (n := 32) ha hb
  exact this
theorem top_byte (u v : Nat) (hv : v < 16777216) : (u ^^^ v) / 16777216 = u / 16777216 := by
  have h := Nat.shiftRight_xor_distrib (a := u) (b := v) (i := 24)
  rw [Nat.shiftRight_eq_div_pow, Nat.shiftRight_eq_div_pow, Nat.shiftRight_eq_div_pow] at h
  have e : (2 : Nat) ^ 24 = 16777216 := rfl
  rw [e, Nat.div_eq_of_lt hv, Nat.xor_zero] at h
  exact h
theorem stepN_lt {x c : Nat} (hx : x < 4294967296) (hc : c < 256) : stepN x c < 4294967296 := by
  have hi := byte_xor (a := x % 256) (b := c) (by omega) hc
  obtain ⟨h1, h2, _⟩ := crcT_back _ hi
  exact word_xor (by omega) (by omega)
theorem stepN_idx {x y c d : Nat} (hx : x < 4294967296) (hy : y < 4294967296) (hc : c < 256) (hd : d < 256) (h : stepN x c = stepN y d) : x % 256 ^^^ c = y % 256 ^^^ d := by
  have hi := byte_xor (a := x % 256) (b := c) (by omega) hc
  have hj := byte_xor (a := y % 256) (b := d) (by omega) hd
  have h1 := (crcT_back _ hi).2.2
  have h2 := (crcT_back _ hj).2.2
  have t1 := top_byte (crcT (x % 256 ^^^ c)).toNat (x / 256) (by omega)
  have t2 := top_byte (crcT (y % 256 ^^^ d)).toNat (y / 256) (by omega)
  have e : (crcT (x % 256 ^^^ c)).toNat ^^^ (x / 256) = (crcT (y % 256 ^^^ d)).toNat ^^^ (y / 256) := h
  rw [e, t2] at t1
  rw [← t1] at h1
  exact h1.symm.trans h2
theorem stepN_reg {x y c : Nat} (hx : x < 4294967296) (hy : y < 4294967296) (hc : c < 256) (h : stepN x c = stepN y c) : x = y := by
  have hi := stepN_idx hx hy hc hc h
  have e : (crcT (x % 256 ^^^ c)).toNat ^^^ (x / 256) = (crcT (y % 256 ^^^ c)).toNat ^^^ (y / 256) := h
  rw [hi] at e
  have h1 := xor_cancel e
  rw [Nat.xor_comm, Nat.xor_comm (y % 256)] at hi
  have h2 := xor_cancel hi
  omega
theorem stepN_byte {x c d : Nat} (hx : x < 4294967296) (hc : c < 256) (hd : d < 256) (h : stepN x c = stepN x d) : c = d := xor_cancel (stepN_idx hx hx hc hd h)
theorem step_is {x c : Nat} (hx : x < 4294967296) (hc : c < 256) : Go.bits .xor .u32 (crcT (Go.bits .xor .u8 ((x : Int) % 256) (c : Int)).toNat) ((x : Int) / 256) = (stepN x c : Int) := by
  have hi := byte_xor (a := x % 256) (b := c) (by omega) hc
  obtain ⟨h1, h2, _⟩ := crcT_back _ hi
  have e1 : ((x : Int) % 256) = ((x % 256 : Nat) : Int) := by omega
  have e2 : ((x : Int) / 256) = ((x / 256 : Nat) : Int) := by omega
  rw [e1, e2, xor_u8 _ _ (by omega) hc, Int.toNat_natCast]
  have e3 : crcT (x % 256 ^^^ c) = ((crcT (x % 256 ^^^ c)).toNat : Int) := (Int.toNat_of_nonneg h1).symm
  rw [e3, xor_u32 _ _ (by omega) (by omega)]
  rfl
def Bts (l : List Int) : Prop := ∀ x ∈ l, 0 ≤ x ∧ x ≤ 255
theorem crcFrom_reg : ∀ (l : List Int), Bts l → ∀ x : Nat, x < 4294967296 → ∃ r : Nat, r < 4294967296 ∧ crcFrom x l = (r : Int) ∧ ∀ y : Nat, y < 4294967296 → crcFrom y l = (r : Int) → y = x
  | [], _, x, hx => ⟨x, hx, rfl, fun y _ h => Int.ofNat.inj h⟩
  | c :: l, hl, x, hx => by
    have hc := hl c (List.mem_cons_self ..)
    obtain ⟨d, rfl⟩ := Int.eq_ofNat_of_zero_le hc.1
    have hd : d < 256 := by omega
    obtain ⟨r, h1, h2, h3⟩ := crcFrom_reg l (fun z hz => hl z (List.mem_cons_of_mem _ hz)) (stepN x d) (stepN_lt hx hd)
    refine ⟨r, h1, ?_, fun y hy h => ?_⟩
    · show crcFrom (Go.bits .xor .u32 (crcT (Go.bits .xor .u8 ((x : Int) % 256) (d : Int)).toNat) ((x : Int) / 256)) l = _
      rw [step_is hx hd]
      exact h2
    · have h' : crcFrom (Go.bits .xor .u32 (crcT (Go.bits .xor .u8 ((y : Int) % 256) (d : Int)).toNat) ((y : Int) / 256)) l = (r : Int) := h
      rw [step_is hy hd] at h'
      exact stepN_reg hy hx hd (h3 _ (stepN_lt hy hd) h')
theorem crcFrom_set : ∀ (l : List Int), Bts l → ∀ (i : Nat) (b : Int), 0 ≤ b → b ≤ 255 → ∀ (h : i < l.length), l[i] ≠ b → ∀ x : Nat, x < 4294967296 → crcFrom x l ≠ crcFrom x (l.set i b)
  | [], _, i, b, _, _, h, _, _, _ => absurd h (Nat.not_lt_zero _)
  | c :: l, hl, i, b, hb, hb', h, hne, x, hx => by
    have hc := hl c (List.mem_cons_self ..)
    obtain ⟨d, rfl⟩ := Int.eq_ofNat_of_zero_le hc.1
    have hd : d < 256 := by omega
    have hl' : Bts l := fun z hz => hl z (List.mem_cons_of_mem _ hz)
    have e1 : crcFrom x ((d : Int) :: l) = crcFrom (stepN x d : Int) l := by
      show crcFrom (Go.bits .xor .u32 (crcT (Go.bits .xor .u8 ((x : Int) % 256) (d : Int)).toNat) ((x : Int) / 256)) l = _
      rw [step_is hx hd]
    cases i with
    | zero =>
      obtain ⟨f, rfl⟩ := Int.eq_ofNat_of_zero_le hb
      have hf : f < 256 := by omega
      have e2 : crcFrom x ((f : Int) :: l) = crcFrom (stepN x f : Int) l := by
        show crcFrom (Go.bits .xor .u32 (crcT (Go.bits .xor .u8 ((x : Int) % 256) (f : Int)).toNat) ((x : Int) / 256)) l = _
        rw [step_is hx hf]
      intro he
      have he' : crcFrom (stepN x d : Int) l = crcFrom (stepN x f : Int) l := by
        rw [← e1, ← e2]
        exact he
      obtain ⟨r, h1, h2, h3⟩ := crcFrom_reg l hl' (stepN x d) (stepN_lt hx hd)
      have h4 := h3 _ (stepN_lt hx hf) (he'.symm.trans h2)
      have h5 := stepN_byte hx hf hd h4
      exact hne (by rw [h5]; rfl)
    | succ j =>
      have hj : j < l.length := by simpa using h
      have hne' : l[j] ≠ b := by simpa using hne
      have e2 : crcFrom x ((d : Int) :: l.set j b) = crcFrom (stepN x d : Int) (l.set j b) := by
        show crcFrom (Go.bits .xor .u32 (crcT (Go.bits .xor .u8 ((x : Int) % 256) (d : Int)).toNat) ((x : Int) / 256)) _ = _
        rw [step_is hx hd]
      intro he
      refine crcFrom_set l hl' j b hb hb' hj hne' (stepN x d) (stepN_lt hx hd) ?_
      rw [← e1, ← e2]
      exact he
theorem crc_set {l : List Int} (hl : Bts l) (i : Nat) (b : Int) (hb : 0 ≤ b) (hb' : b ≤ 255) (h : i < l.length) (hne : l[i] ≠ b) : crc l ≠ crc (l.set i b) := by
  have hl2 : Bts (l.set i b) := fun z hz => by
    rcases List.mem_or_eq_of_mem_set hz with h | h
    · exact hl z h
    · omega
  obtain ⟨r, h1, h2, _⟩ := crcFrom_reg l hl 4294967295 (by decide)
  obtain ⟨q, k1, k2, _⟩ := crcFrom_reg (l.set i b) hl2 4294967295 (by decide)
  have hn := crcFrom_set l hl i b hb hb' h hne 4294967295 (by decide)
  rw [h2, k2] at hn
  intro he
  have h2' : crcFrom 4294967295 l = (r : Int) := h2
  have k2' : crcFrom 4294967295 (l.set i b) = (q : Int) := k2
  have he' : Go.bits .xor .u32 ((4294967295 : Nat) : Int) (r : Int) = Go.bits .xor .u32 ((4294967295 : Nat) : Int) (q : Int) := by
    rw [← h2', ← k2']
    exact he
  rw [xor_u32 _ _ (by decide) h1, xor_u32 _ _ (by decide) k1] at he'
  exact hn (by rw [xor_cancel (Int.ofNat.inj he')])
/-! ### numbers as bytes -/
def foldN (n : Int) : Nat := if 0 ≤ n then (2 * n).toNat else (-2 * n - 1).toNat
theorem wu64 (n : Int) : IntKind.u64.wrap n = n % 18446744073709551616 := by
  have e : (2 : Int) ^ IntKind.u64.bits = 18446744073709551616 := rfl
  simp [IntKind.wrap, IntKind.bits, IntKind.signed]
theorem xor_ones (a : Nat) (h : a < 18446744073709551616) : Go.bits .xor .u64 (a : Int) 18446744073709551615 = ((18446744073709551615 - a : Nat) : Int) := by
  have e : BitVec.ofInt 64 18446744073709551615 = BitVec.allOnes 64 := by decide
  have e2 : BitVec.ofInt 64 (a : Int) = BitVec.ofNat 64 a := BitVec.ofInt_natCast 64 a
  show IntKind.u64.wrap ((BitVec.ofInt 64 (a : Int) ^^^ BitVec.ofInt 64 18446744073709551615).toNat : Int) = _
  rw [e, e2, BitVec.xor_allOnes, BitVec.toNat_not, BitVec.toNat_ofNat, wu64]
  have : (2 : Nat) ^ 64 = 18446744073709551616 := rfl
  omega
theorem xor_zero64 (a : Nat) (h : a < 18446744073709551616) : Go.bits .xor .u64 (a : Int) 0 = (a : Int) := by
  have e2 : BitVec.ofInt 64 (a : Int) = BitVec.ofNat 64 a := BitVec.ofInt_natCast 64 a
  have e : BitVec.ofInt 64 0 = 0#64 := by decide
  show IntKind.u64.wrap ((BitVec.ofInt 64 (a : Int) ^^^ BitVec.ofInt 64 0).toNat : Int) = _
  rw [e, e2, BitVec.xor_zero, BitVec.toNat_ofNat, wu64]
  have : (2 : Nat) ^ 64 = 18446744073709551616 := rfl
  omega
theorem foldN_lt {n : Int} (h1 : -9223372036854775808 ≤ n) (h2 : n ≤ 9223372036854775807) : foldN n < 18446744073709551616 := by unfold foldN; split <;> omega
theorem fold_is {n : Int} (h1 : -9223372036854775808 ≤ n) (h2 : n ≤ 9223372036854775807) : Go.bits .xor .u64 (IntKind.u64.wrap ((IntKind.u64.wrap n) * 2)) (IntKind.u64.wrap (n / 9223372036854775808)) = (foldN n : Int) := by
  rw [wu64, wu64, wu64]
  by_cases h : 0 ≤ n
  · have e1 : n % 18446744073709551616 * 2 % 18446744073709551616 = ((2 * n).toNat : Int) := by omega
    have e2 : n / 9223372036854775808 % 18446744073709551616 = 0 := by omega
    rw [e1, e2, xor_zero64 _ (by omega)]
    unfold foldN
    rw [if_pos h]
  · have e1 : n % 18446744073709551616 * 2 % 18446744073709551616 = ((2 * n + 18446744073709551616).toNat : Int) := by omega
    have e2 : n / 9223372036854775808 % 18446744073709551616 = 18446744073709551615 := by omega
    rw [e1, e2, xor_ones _ (by omega)]
    unfold foldN
    rw [if_neg h]
    omega
def encN (u : Nat) : List Int := if h : u < 128 then [(u : Int)] else ((u % 128 + 128 : Nat) : Int) :: encN (u / 128)
termination_by u
decreasing_by omega
theorem encN_short {u : Nat} (h : u < 128) : encN u = [(u : Int)] := by rw [encN, dif_pos h]
theorem encN_long {u : Nat} (h : ¬ u < 128) : encN u = ((u % 128 + 128 : Nat) : Int) :: encN (u / 128) := by rw [encN, dif_neg h]
theorem encN_pos (u : Nat) : 1 ≤ (encN u).length := by
  by_cases h : u < 128
  · rw [encN_short h]
    exact Nat.le_refl _
  · rw [encN_long h]
    simp
theorem encN_len : ∀ (k u : Nat), u < 128 ^ (k + 1) → (encN u).length ≤ k + 1
  | 0, u, h => by rw [encN_short (by simpa using h)]; exact Nat.le_refl _
  | k + 1, u, h => by
    by_cases hu : u < 128
    · rw [encN_short hu]
      simp
    · rw [encN_long hu]
      have := encN_len k (u / 128) (by rw [Nat.pow_succ] at h; exact Nat.div_lt_of_lt_mul (by rw [Nat.mul_comm]; exact h))
      simpa using this
theorem encN_ten {u : Nat} (h : u < 18446744073709551616) : (encN u).length ≤ 10 := encN_len 9 u (Nat.lt_of_lt_of_le h (by decide))
theorem encN_mono : ∀ (k u v : Nat), u < k → u ≤ v → (encN u).length ≤ (encN v).length
  | 0, u, v, h, _ => absurd h (Nat.not_lt_zero _)
  | k + 1, u, v, h, huv => by
    by_cases hu : u < 128
    · rw [encN_short hu]
      exact encN_pos v
    · rw [encN_long hu, encN_long (show ¬ v < 128 by omega)]
      have := encN_mono k (u / 128) (v / 128) (by omega) (by omega)
      simpa using this
theorem or_high : ∀ i < 256, Go.bits .or .u8 ((i : Nat) : Int) 128 = ((i % 128 + 128 : Nat) : Int) := by decide +kernel
theorem put_loop : ∀ (k u : Nat), u < k → ∀ (out : List Int), out.length + (encN u).length ≤ 140737488355328 → Ev (fun n => codec_PutInt.l0 n (u : Int) out) (out ++ encN u)
  | 0, u, h, _, _ => absurd h (Nat.not_lt_zero _)
  | k + 1, u, h, out, hb => by
    have hp := encN_pos u
    refine Ev.step (fun n => by rw [codec_PutInt.l0]) ?_
    by_cases hu : u < 128
    · refine Ev.neg (by omega) (Ev.pos (by omega) ?_)
      rw [encN_short hu]
      have e : (u : Int) % 256 = u := by omega
      rw [e]
      exact Ev.now _
    · rw [encN_long hu] at hb ⊢
      have hp' := encN_pos (u / 128)
      rw [List.length_cons] at hb
      refine Ev.pos (by omega) (Ev.pos (by omega) ?_)
      have e1 : (u : Int) / 128 = ((u / 128 : Nat) : Int) := by omega
      have e2 : (u : Int) % 256 = ((u % 256 : Nat) : Int) := by omega
      have e3 : u % 256 % 128 = u % 128 := by omega
      rw [e1, e2, or_high _ (by omega), e3]
      have := put_loop k (u / 128) (by omega) (out ++ [((u % 128 + 128 : Nat) : Int)]) (by rw [List.length_append, List.length_singleton]; omega)
      rw [List.append_assoc] at this
      exact this
theorem put_is {n : Int} (h1 : -9223372036854775808 ≤ n) (h2 : n ≤ 9223372036854775807) (l : List Int) (hl : l.length ≤ 1000000) : Ev (fun k => codec_PutInt.f k l n) (l ++ encN (foldN n)) := by
  have h3 := encN_ten (foldN_lt h1 h2)
  unfold codec_PutInt.f
  refine Ev.pos (by simp; omega) ?_
  rw [fold_is h1 h2, List.nil_append]
  exact put_loop _ _ (Nat.lt_succ_self _) l (by omega)
/-! ### bytes as numbers -/
theorem wi64 (n : Int) : IntKind.i64.wrap n = wrap64 n := by
  have e : (2 : Int) ^ IntKind.i64.bits = 18446744073709551616 := rfl
  simp [IntKind.wrap, IntKind.bits, IntKind.signed, wrap64] <;> omega
theorem xor_i64_ones {a : Nat} (h : a < 9223372036854775808) : Go.bits .xor .i64 (a : Int) (-1) = -(a : Int) - 1 := by
  have e : BitVec.ofInt 64 (-1) = BitVec.allOnes 64 := by decide
  have e2 : BitVec.ofInt 64 (a : Int) = BitVec.ofNat 64 a := BitVec.ofInt_natCast 64 a
  show IntKind.i64.wrap ((BitVec.ofInt 64 (a : Int) ^^^ BitVec.ofInt 64 (-1)).toNat : Int) = _
  rw [e, e2, BitVec.xor_allOnes, BitVec.toNat_not, BitVec.toNat_ofNat, wi64]
  have : (2 : Nat) ^ 64 = 18446744073709551616 := rfl
  unfold wrap64
  omega
theorem xor_i64_zero {a : Nat} (h : a < 9223372036854775808) : Go.bits .xor .i64 (a : Int) 0 = (a : Int) := by
  have e2 : BitVec.ofInt 64 (a : Int) = BitVec.ofNat 64 a := BitVec.ofInt_natCast 64 a
  have e : BitVec.ofInt 64 0 = 0#64 := by decide
  show IntKind.i64.wrap ((BitVec.ofInt 64 (a : Int) ^^^ BitVec.ofInt 64 0).toNat : Int) = _
  rw [e, e2, BitVec.xor_zero, BitVec.toNat_ofNat, wi64]
  have : (2 : Nat) ^ 64 = 18446744073709551616 := rfl
  unfold wrap64
  omega
theorem and_one {a : Nat} (h : a < 18446744073709551616) : Go.bits .and .u64 (a : Int) 1 = ((a % 2 : Nat) : Int) := by
  have e2 : BitVec.ofInt 64 (a : Int) = BitVec.ofNat 64 a := BitVec.ofInt_natCast 64 a
  have e : BitVec.ofInt 64 1 = 1#64 := by decide
  show IntKind.u64.wrap ((BitVec.ofInt 64 (a : Int) &&& BitVec.ofInt 64 1).toNat : Int) = _
  have k : (2 : Nat) ^ 64 = 18446744073709551616 := rfl
  rw [e, e2, BitVec.toNat_and, BitVec.toNat_ofNat, wu64]
  have e3 : (1#64).toNat = 1 := rfl
  rw [e3, Nat.and_one_is_mod, k, Nat.mod_eq_of_lt h]
  omega
theorem or_add {u x j : Nat} (hu : u < 2 ^ j) (h : u + x * 2 ^ j < 18446744073709551616) : Go.bits .or .u64 (u : Int) ((x * 2 ^ j : Nat) : Int) = ((u + x * 2 ^ j : Nat) : Int) := by
  have e2 : ∀ a : Nat, BitVec.ofInt 64 (a : Int) = BitVec.ofNat 64 a := fun a => BitVec.ofInt_natCast 64 a
  show IntKind.u64.wrap ((BitVec.ofInt 64 (u : Int) ||| BitVec.ofInt 64 ((x * 2 ^ j : Nat) : Int)).toNat : Int) = _
  have k : (2 : Nat) ^ 64 = 18446744073709551616 := rfl
  have e3 := Nat.two_pow_add_eq_or_of_lt hu x
  rw [Nat.mul_comm (2 ^ j) x, Nat.or_comm] at e3
  rw [e2, e2, BitVec.toNat_or, BitVec.toNat_ofNat, BitVec.toNat_ofNat, wu64, k, Nat.mod_eq_of_lt (show u < 18446744073709551616 by omega), Nat.mod_eq_of_lt (show x * 2 ^ j < 18446744073709551616 by omega), ← e3]
  omega
theorem and_low : ∀ i < 256, Go.bits .and .u8 ((i : Nat) : Int) 127 = ((i % 128 : Nat) : Int) := by decide +kernel
theorem unfold_is {n : Int} (h1 : -9223372036854775808 ≤ n) (h2 : n ≤ 9223372036854775807) : Go.bits .xor .i64 (wrap64 ((foldN n : Int) / 2)) (wrap64 (-(wrap64 (Go.bits .and .u64 (foldN n : Int) 1)))) = n := by
  have h3 := foldN_lt h1 h2
  rw [and_one h3]
  by_cases h : 0 ≤ n
  · have e : foldN n = (2 * n).toNat := if_pos h
    have e1 : (foldN n : Int) / 2 = (n.toNat : Int) := by omega
    have e2 : foldN n % 2 = 0 := by omega
    rw [e1, e2, w64 (by omega) (by omega)]
    have := xor_i64_zero (a := n.toNat) (by omega)
    have e3 : wrap64 (-(wrap64 ((0 : Nat) : Int))) = 0 := by unfold wrap64; omega
    rw [e3, this]
    omega
  · have e : foldN n = (-2 * n - 1).toNat := if_neg h
    have e1 : (foldN n : Int) / 2 = ((-n - 1).toNat : Int) := by omega
    have e2 : foldN n % 2 = 1 := by omega
    rw [e1, e2, w64 (by omega) (by omega)]
    have := xor_i64_ones (a := (-n - 1).toNat) (by omega)
    have e3 : wrap64 (-(wrap64 ((1 : Nat) : Int))) = -1 := by unfold wrap64; omega
    rw [e3, this]
    omega
theorem rd_mid (pre post : List Int) (x : Int) : rd (pre ++ x :: post) (pre.length : Int) = x := by
  rw [rd_nat _ _ (by simp)]
  simp
/-- One byte's part of a number. -/
theorem part_is {x u j v : Nat} (hx : x % 128 ≤ v) (hx8 : x < 256) (hu : u < 2 ^ (7 * j)) (hj : j ≤ 9) (h : u + v * 2 ^ (7 * j) < 18446744073709551616) :
    Go.bits .or .u64 (u : Int) (shl .u64 (IntKind.u64.wrap (Go.bits .and .u8 (x : Int) 127)) (wrap64 (7 * (j : Int)))) = ((u + x % 128 * 2 ^ (7 * j) : Nat) : Int) := by
  have hm : x % 128 * 2 ^ (7 * j) ≤ v * 2 ^ (7 * j) := Nat.mul_le_mul_right _ hx
  have e1 : wrap64 (7 * (j : Int)) = ((7 * j : Nat) : Int) := by rw [w64 (by omega) (by omega)]; omega
  have e2 : IntKind.u64.wrap ((x % 128 : Nat) : Int) = ((x % 128 : Nat) : Int) := by rw [wu64]; omega
  rw [and_low _ hx8, e1, e2]
  unfold shl
  have e3 : min ((7 * j : Nat) : Int).toNat IntKind.u64.bits = 7 * j := by
    have : IntKind.u64.bits = 64 := rfl
    rw [this]
    omega
  rw [e3, wu64]
  have e4 : ((x % 128 : Nat) : Int) * 2 ^ (7 * j) = ((x % 128 * 2 ^ (7 * j) : Nat) : Int) := by push_cast; rfl
  rw [e4]
  have e5 : ((x % 128 * 2 ^ (7 * j) : Nat) : Int) % 18446744073709551616 = ((x % 128 * 2 ^ (7 * j) : Nat) : Int) := by
    generalize x % 128 * 2 ^ (7 * j) = q at *
    omega
  rw [e5]
  exact or_add hu (by omega)
theorem nine {j v : Nat} (hv : 1 ≤ v) (h : v * 2 ^ (7 * j) < 18446744073709551616) : j ≤ 9 := by
  rcases Nat.lt_or_ge 9 j with hj | hj
  · have h1 : (2 : Nat) ^ 70 ≤ 2 ^ (7 * j) := Nat.pow_le_pow_right (by decide) (by omega)
    have h2 : 2 ^ (7 * j) ≤ v * 2 ^ (7 * j) := Nat.le_mul_of_pos_left _ hv
    have h3 : (2 : Nat) ^ 70 = 1180591620717411303424 := by decide
    omega
  · exact hj
theorem w_addn {a b c : Nat} (h : c = a + b) (hc : c ≤ 1000) : wrap64 ((a : Int) + (b : Int)) = (c : Int) := by rw [w64 (by omega) (by omega)]; omega
theorem w_sevn {j : Nat} (h : j ≤ 9) : wrap64 (7 * (j : Int)) = ((7 * j : Nat) : Int) := by rw [w64 (by omega) (by omega)]; omega
theorem mod_part (v : Nat) : (v % 128 + 128) % 128 ≤ v := by omega
theorem byte_part (v : Nat) : v % 128 + 128 < 256 := by omega
theorem int_loop (at_ : Nat) (hat : at_ ≤ 900) (n : Int) (h1 : -9223372036854775808 ≤ n) (h2 : n ≤ 9223372036854775807) :
    ∀ (m v : Nat), v < m → ∀ (pre post : List Int) (u j : Nat), pre.length = at_ + j → u < 2 ^ (7 * j) → u + v * 2 ^ (7 * j) = foldN n → (1 ≤ j → 1 ≤ v) →
      Ev (fun k => codec_Int.l0 k (pre ++ (encN v ++ post)) (at_ : Int) (u : Int) (j : Int)) (n, ((pre.length + (encN v).length : Nat) : Int), 0)
  | 0, v, h, _, _, _, _, _, _, _, _ => absurd h (Nat.not_lt_zero _)
  | m + 1, v, h, pre, post, u, j, hp, hu, hf, hv => by
    have hfl := foldN_lt h1 h2
    have hj : j ≤ 9 := by
      rcases Nat.eq_zero_or_pos j with h0 | h0
      · omega
      · exact nine (hv h0) (by omega)
    have hb : pre.length ≤ 1000 := by omega
    refine Ev.step (fun k => by rw [codec_Int.l0]) (Ev.pos (by omega) ?_)
    have hle : u + v * 2 ^ (7 * j) < 18446744073709551616 := by omega
    have ew := w_addn hp hb
    have e7 := w_sevn hj
    have es := w_succ (i := pre.length) (Nat.lt_of_le_of_lt hb (by decide))
    have ej := w_succ (i := j) (Nat.lt_of_le_of_lt hj (by decide))
    by_cases hc : v < 128
    · rw [encN_short hc, List.singleton_append, ew, rd_mid]
      have hpart := part_is (x := v) (v := v) (u := u) (j := j) (Nat.mod_le _ _) (Nat.lt_trans hc (by decide)) hu hj hle
      rw [Nat.mod_eq_of_lt hc, hf] at hpart
      have ef := unfold_is h1 h2
      rw [hpart, ef]
      simp only [es, e7, List.length_singleton]
      clear hpart ef es e7 ew ej
      have hl : (pre ++ (v : Int) :: post).length = pre.length + 1 + post.length := by simp; omega
      refine Ev.neg (by rw [hl]; omega) (Ev.pos (by omega) (Ev.pos (by rw [hl]; omega) (Ev.pos (by omega) (Ev.neg (by omega) ?_))))
      have last : Ev (fun k => if (j : Int) > 0 then (if (v : Int) = 0 then some ((0 : Int), (0 : Int), (3 : Int)) else some (n, ((pre.length + 1 : Nat) : Int), 0)) else some (n, ((pre.length + 1 : Nat) : Int), 0)) (n, ((pre.length + 1 : Nat) : Int), 0) := by
        by_cases h0 : 1 ≤ j
        · have := hv h0
          exact Ev.pos (by omega) (Ev.neg (by omega) (Ev.now _))
        · exact Ev.neg (by omega) (Ev.now _)
      by_cases h9 : j = 9
      · refine Ev.pos (by omega) (Ev.neg ?_ last)
        subst h9
        have : (2 : Nat) ^ (7 * 9) = 9223372036854775808 := by decide
        rw [this] at hf
        omega
      · exact Ev.neg (by omega) last
    · rw [encN_long hc, List.cons_append, ew, rd_mid]
      have hpart := part_is (x := v % 128 + 128) (v := v) (u := u) (j := j) (mod_part v) (byte_part v) hu hj hle
      rw [Nat.add_mod_right, Nat.mod_mod] at hpart
      rw [hpart]
      simp only [e7, ej]
      clear hpart e7 ej es ew
      have hl : (pre ++ ((v % 128 + 128 : Nat) : Int) :: (encN (v / 128) ++ post)).length = pre.length + 1 + (encN (v / 128)).length + post.length := by simp; omega
      refine Ev.neg (by rw [hl]; omega) (Ev.pos (by omega) (Ev.pos (by rw [hl]; omega) (Ev.pos (by omega) (Ev.pos (by omega) ?_))))
      have hpow : 2 ^ (7 * (j + 1)) = 128 * 2 ^ (7 * j) := by rw [show 7 * (j + 1) = 7 + 7 * j by omega, Nat.pow_add]
      have hdm : v = 128 * (v / 128) + v % 128 := (Nat.div_add_mod v 128).symm
      have := int_loop at_ hat n h1 h2 m (v / 128) (by omega) (pre ++ [((v % 128 + 128 : Nat) : Int)]) post (u + v % 128 * 2 ^ (7 * j)) (j + 1) (by rw [List.length_append, List.length_singleton]; omega)
        (by
          rw [hpow]
          have h5 : v % 128 * 2 ^ (7 * j) ≤ 127 * 2 ^ (7 * j) := Nat.mul_le_mul_right _ (by omega)
          omega) (by
          rw [hpow, ← hf]
          have h5 : v * 2 ^ (7 * j) = (128 * (v / 128) + v % 128) * 2 ^ (7 * j) := by rw [← hdm]
          rw [h5]
          grind) (by omega)
      rw [List.append_assoc, List.singleton_append, List.length_append, List.length_singleton] at this
      rw [List.length_cons, show pre.length + ((encN (v / 128)).length + 1) = pre.length + 1 + (encN (v / 128)).length by omega]
      exact this
theorem encN_ne (u : Nat) : encN u ≠ [] := fun h => by
  have := encN_pos u
  rw [h] at this
  exact absurd this (by decide)
theorem int_short (at_ : Nat) (hat : at_ ≤ 900) :
    ∀ (m v : Nat), v < m → ∀ (pre : List Int) (u : Int) (j : Nat), pre.length = at_ + j → j + (encN v).length ≤ 10 →
      Ev (fun k => codec_Int.l0 k (pre ++ (encN v).dropLast) (at_ : Int) u (j : Int)) ((0 : Int), (0 : Int), (2 : Int))
  | 0, v, h, _, _, _, _, _ => absurd h (Nat.not_lt_zero _)
  | m + 1, v, h, pre, u, j, hp, hl => by
    have hpos := encN_pos v
    have hj : j ≤ 9 := by omega
    have hb : pre.length ≤ 1000 := by omega
    refine Ev.step (fun k => by rw [codec_Int.l0]) (Ev.pos (by omega) ?_)
    have ew := w_addn hp hb
    have e7 := w_sevn hj
    have ej := w_succ (i := j) (Nat.lt_of_le_of_lt hj (by decide))
    by_cases hc : v < 128
    · rw [encN_short hc, List.dropLast_singleton, List.append_nil, ew]
      exact Ev.pos (Int.le_refl _) (Ev.now _)
    · rw [encN_long hc, List.dropLast_cons_of_ne_nil (encN_ne _), ew, rd_mid]
      rw [encN_long hc, List.length_cons] at hl
      simp only [e7, ej]
      clear e7 ej ew
      have hlen : (pre ++ ((v % 128 + 128 : Nat) : Int) :: (encN (v / 128)).dropLast).length = pre.length + 1 + (encN (v / 128)).dropLast.length := by simp; omega
      refine Ev.neg (by rw [hlen]; omega) (Ev.pos (by omega) (Ev.pos (by rw [hlen]; omega) (Ev.pos (by omega) (Ev.pos (by omega) ?_))))
      have := fun u' => int_short at_ hat m (v / 128) (by omega) (pre ++ [((v % 128 + 128 : Nat) : Int)]) u' (j + 1) (by rw [List.length_append, List.length_singleton]; omega) (by omega)
      rw [List.append_assoc, List.singleton_append] at this
      exact this _
theorem int_is (l post : List Int) (hl : l.length ≤ 900) {n : Int} (h1 : -9223372036854775808 ≤ n) (h2 : n ≤ 9223372036854775807) : Ev (fun k => codec_Int.f k (l ++ (encN (foldN n) ++ post)) (l.length : Int)) (n, ((l.length + (encN (foldN n)).length : Nat) : Int), 0) := by
  unfold codec_Int.f
  refine Ev.neg (by omega) ?_
  have e : decide ((l.length : Int) > ((l ++ (encN (foldN n) ++ post)).length : Int)) = false := decide_eq_false (by rw [List.length_append]; omega)
  rw [e]
  refine Ev.step (fun k => by rw [codec_Int.j0]) (Ev.neg (by decide) ?_)
  exact int_loop l.length hl n h1 h2 _ _ (Nat.lt_succ_self _) l post 0 0 rfl (by decide) (by simp) (by omega)
theorem int_cut (l : List Int) (hl : l.length ≤ 900) {n : Int} (h1 : -9223372036854775808 ≤ n) (h2 : n ≤ 9223372036854775807) : Ev (fun k => codec_Int.f k (l ++ (encN (foldN n)).dropLast) (l.length : Int)) ((0 : Int), (0 : Int), (2 : Int)) := by
  have h10 := encN_ten (foldN_lt h1 h2)
  unfold codec_Int.f
  refine Ev.neg (by omega) ?_
  have e : decide ((l.length : Int) > ((l ++ (encN (foldN n)).dropLast).length : Int)) = false := decide_eq_false (by rw [List.length_append]; omega)
  rw [e]
  refine Ev.step (fun k => by rw [codec_Int.j0]) (Ev.neg (by decide) ?_)
  exact int_short l.length hl _ _ (Nat.lt_succ_self _) l 0 0 rfl (by omega)
/-! ### what is read was written so -/
theorem fold_surj (w : Nat) (h : w < 18446744073709551616) : ∃ n : Int, -9223372036854775808 ≤ n ∧ n ≤ 9223372036854775807 ∧ foldN n = w := by
  by_cases e : w % 2 = 0
  · exact ⟨((w / 2 : Nat) : Int), by omega, by omega, by unfold foldN; rw [if_pos (by omega)]; omega⟩
  · exact ⟨-((w / 2 : Nat) : Int) - 1, by omega, by omega, by unfold foldN; rw [if_neg (by omega)]; omega⟩
theorem pow_eight {j : Nat} (h : j ≤ 8) : (2 : Nat) ^ (7 * j) ≤ 72057594037927936 := by
  have : (2 : Nat) ^ (7 * j) ≤ 2 ^ 56 := Nat.pow_le_pow_right (by decide) (by omega)
  exact this
theorem pow_seven (j : Nat) : (2 : Nat) ^ (7 * (j + 1)) = 128 * 2 ^ (7 * j) := by rw [show 7 * (j + 1) = 7 + 7 * j by omega, Nat.pow_add]
def ReadAt (pre rest : List Int) (u j : Nat) (r : Int × Int × Int) : Prop :=
  r.2.2 = 0 → ∃ (v : Nat) (post : List Int), rest = encN v ++ post ∧ u + v * 2 ^ (7 * j) < 18446744073709551616 ∧ -9223372036854775808 ≤ r.1 ∧ r.1 ≤ 9223372036854775807 ∧ foldN r.1 = u + v * 2 ^ (7 * j) ∧ r.2.1 = ((pre.length + (encN v).length : Nat) : Int) ∧ (1 ≤ j → 1 ≤ v)
theorem int_conv_loop (at_ : Nat) (hat : at_ ≤ 900) :
    ∀ (d j : Nat), j + d = 10 → ∀ (pre rest : List Int) (u : Nat), pre.length = at_ + j → u < 2 ^ (7 * j) → (∀ x ∈ rest, 0 ≤ x ∧ x ≤ 255) →
      EvP (fun k => codec_Int.l0 k (pre ++ rest) (at_ : Int) (u : Int) (j : Int)) (ReadAt pre rest u j)
  | 0, j, hj, pre, rest, u, hp, hu, hr => by
    refine EvP.step (fun k => by rw [codec_Int.l0]) (EvP.neg (by omega) (EvP.ret (fun h => absurd h (by decide))))
  | d + 1, j, hjd, pre, [], u, hp, hu, hr => by
    have hb : pre.length ≤ 1000 := by omega
    have ew := w_addn hp hb
    refine EvP.step (fun k => by rw [codec_Int.l0]) (EvP.pos (by omega) ?_)
    rw [ew, List.append_nil]
    exact EvP.pos (by omega) (EvP.ret (fun h => absurd h (by decide)))
  | d + 1, j, hjd, pre, c :: rest, u, hp, hu, hr => by
    have hj : j ≤ 9 := by omega
    have hb : pre.length ≤ 1000 := by omega
    have hc := hr c (List.mem_cons_self ..)
    obtain ⟨x, rfl⟩ := Int.eq_ofNat_of_zero_le hc.1
    have hx8 : x < 256 := by omega
    have hl : (pre ++ (x : Int) :: rest).length = pre.length + 1 + rest.length := by simp; omega
    refine EvP.step (fun k => by rw [codec_Int.l0]) (EvP.pos (by omega) ?_)
    have ew := w_addn hp hb
    have e7 := w_sevn hj
    have es := w_succ (i := pre.length) (Nat.lt_of_le_of_lt hb (by decide))
    have ej := w_succ (i := j) (Nat.lt_of_le_of_lt hj (by decide))
    rw [ew, rd_mid]
    by_cases hc : x < 128
    · by_cases h9 : j = 9 ∧ 1 < x
      · simp only [e7]
        clear ew e7 es ej
        exact EvP.neg (by rw [hl]; omega) (EvP.pos (by omega) (EvP.pos (by rw [hl]; omega) (EvP.pos (by omega) (EvP.neg (by omega) (EvP.pos (by omega) (EvP.pos (by omega) (EvP.ret (fun h => absurd h (by decide)))))))))
      by_cases h0 : 1 ≤ j ∧ x = 0
      · simp only [e7]
        clear ew e7 es ej
        refine EvP.neg (by rw [hl]; omega) (EvP.pos (by omega) (EvP.pos (by rw [hl]; omega) (EvP.pos (by omega) (EvP.neg (by omega) ?_))))
        by_cases h9' : j = 9
        · exact EvP.pos (by omega) (EvP.neg (by omega) (EvP.pos (by omega) (EvP.pos (by omega) (EvP.ret (fun h => absurd h (by decide))))))
        · exact EvP.neg (by omega) (EvP.pos (by omega) (EvP.pos (by omega) (EvP.ret (fun h => absurd h (by decide)))))
      have hle : u + x * 2 ^ (7 * j) < 18446744073709551616 := by
        clear ew e7 es ej
        by_cases h9' : j = 9
        · subst h9'
          have e9 : (2 : Nat) ^ (7 * 9) = 9223372036854775808 := by decide
          rw [e9] at hu ⊢
          omega
        · have h8 := pow_eight (j := j) (by omega)
          have h5 : x * 2 ^ (7 * j) ≤ 127 * 2 ^ (7 * j) := Nat.mul_le_mul_right _ (by omega)
          omega
      obtain ⟨n, n1, n2, hn⟩ := fold_surj _ hle
      have hpart := part_is (x := x) (v := x) (u := u) (j := j) (Nat.mod_le _ _) hx8 hu hj hle
      rw [Nat.mod_eq_of_lt hc, ← hn] at hpart
      have ef := unfold_is n1 n2
      rw [hpart, ef]
      simp only [es, e7]
      clear hpart ef es e7 ew ej
      refine EvP.neg (by rw [hl]; omega) (EvP.pos (by omega) (EvP.pos (by rw [hl]; omega) (EvP.pos (by omega) (EvP.neg (by omega) ?_))))
      have fin : ReadAt pre ((x : Int) :: rest) u j (n, ((pre.length + 1 : Nat) : Int), 0) := fun _ =>
        ⟨x, rest, by rw [encN_short hc]; rfl, hle, n1, n2, hn, by rw [encN_short hc]; rfl, fun h => by omega⟩
      have last : EvP (fun k => if (j : Int) > 0 then (if (x : Int) = 0 then some ((0 : Int), (0 : Int), (3 : Int)) else some (n, ((pre.length + 1 : Nat) : Int), 0)) else some (n, ((pre.length + 1 : Nat) : Int), 0)) (ReadAt pre ((x : Int) :: rest) u j) := by
        by_cases h1 : 1 ≤ j
        · exact EvP.pos (by omega) (EvP.neg (by omega) (EvP.ret fin))
        · exact EvP.neg (by omega) (EvP.ret fin)
      by_cases h9' : j = 9
      · exact EvP.pos (by omega) (EvP.neg (by omega) last)
      · exact EvP.neg (by omega) last
    · by_cases h9 : j = 9
      · simp only [e7, ej]
        clear ew e7 es ej
        refine EvP.neg (by rw [hl]; omega) (EvP.pos (by omega) (EvP.pos (by rw [hl]; omega) (EvP.pos (by omega) (EvP.pos (by omega) ?_))))
        exact EvP.step (fun k => by rw [codec_Int.l0]) (EvP.neg (by omega) (EvP.ret (fun h => absurd h (by decide))))
      · have h8 := pow_eight (j := j) (by clear ew e7 es ej; omega)
        have h5 : x % 128 * 2 ^ (7 * j) ≤ 127 * 2 ^ (7 * j) := Nat.mul_le_mul_right _ (by clear ew e7 es ej; omega)
        have hpart := part_is (x := x) (v := x % 128) (u := u) (j := j) (Nat.le_refl _) hx8 hu hj (by clear ew e7 es ej; omega)
        rw [hpart]
        simp only [e7, ej]
        clear hpart e7 ej es ew
        refine EvP.neg (by rw [hl]; omega) (EvP.pos (by omega) (EvP.pos (by rw [hl]; omega) (EvP.pos (by omega) (EvP.pos (by omega) ?_))))
        have hpow := pow_seven j
        have ih := int_conv_loop at_ hat d (j + 1) (by omega) (pre ++ [(x : Int)]) rest (u + x % 128 * 2 ^ (7 * j)) (by rw [List.length_append, List.length_singleton]; omega) (by rw [hpow]; omega) (fun y hy => hr y (List.mem_cons_of_mem _ hy))
        rw [List.append_assoc, List.singleton_append] at ih
        refine ih.mono (fun r h e0 => ?_)
        obtain ⟨v, post, q1, q2, q3, q4, q5, q6, q7⟩ := h e0
        have hv := q7 (by omega)
        have ex : (v * 128 + x % 128) % 128 + 128 = x := by omega
        have ed : (v * 128 + x % 128) / 128 = v := by omega
        have en : encN (v * 128 + x % 128) = (x : Int) :: encN v := by
          rw [encN_long (by omega), ex, ed]
        have em : u + (v * 128 + x % 128) * 2 ^ (7 * j) = u + x % 128 * 2 ^ (7 * j) + v * 2 ^ (7 * (j + 1)) := by
          rw [hpow, Nat.add_mul, Nat.mul_assoc]
          omega
        refine ⟨v * 128 + x % 128, post, by rw [en, q1]; rfl, by rw [em]; exact q2, q3, q4, by rw [em]; exact q5, ?_, fun _ => by omega⟩
        rw [q6, en, List.length_append, List.length_singleton, List.length_cons]
        congr 1
        omega
theorem int_any (b : List Int) (hb : ∀ x ∈ b, 0 ≤ x ∧ x ≤ 255) (i : Nat) (hi : i ≤ b.length) (hi9 : i ≤ 900) : EvP (fun k => codec_Int.f k b (i : Int)) (fun r => r.2.2 = 0 → -9223372036854775808 ≤ r.1 ∧ r.1 ≤ 9223372036854775807 ∧ ∃ e : Nat, r.2.1 = (e : Int) ∧ i ≤ e ∧ e ≤ b.length ∧ b.drop i = encN (foldN r.1) ++ b.drop e) := by
  unfold codec_Int.f
  refine EvP.neg (by omega) ?_
  have e : decide ((i : Int) > (b.length : Int)) = false := decide_eq_false (by omega)
  rw [e]
  refine EvP.step (fun k => by rw [codec_Int.j0]) (EvP.neg (by decide) ?_)
  have hlt : (b.take i).length = i := by rw [List.length_take]; omega
  have h := int_conv_loop i hi9 10 0 rfl (b.take i) (b.drop i) 0 (by rw [hlt]; rfl) (by decide) (fun x hx => hb x (List.mem_of_mem_drop hx))
  rw [List.take_append_drop] at h
  refine EvP.mono h (fun r hr e0 => ?_)
  obtain ⟨v, post, q1, q2, q3, q4, q5, q6, _⟩ := hr e0
  have ev : foldN r.1 = v := by rw [q5]; simp
  have hlen := congrArg List.length q1
  rw [List.length_drop, List.length_append] at hlen
  refine ⟨q3, q4, i + (encN v).length, by rw [q6, hlt], by omega, by omega, ?_⟩
  rw [← List.drop_drop, q1, List.drop_left, ev]
/-! ### bytes that are sealed -/
def sealB (b : List Int) : List Int := b ++ [(X.crc b) % 256, (X.crc b / 256) % 256, (X.crc b / 65536) % 256, (X.crc b / 16777216) % 256]
theorem seal_len (b : List Int) : (sealB b).length = b.length + 4 := by
  unfold sealB
  rw [List.length_append]
  rfl
def bts (l : List Int) : Prop := ∀ x ∈ l, 0 ≤ x ∧ x ≤ 255
theorem toList_loop (bs : ByteArray) (d : Nat) : ∀ (i : Nat) (r : List UInt8), i + d = bs.size → ByteArray.toList.loop bs i r = r.reverse ++ bs.data.toList.drop i := by
  induction d with
  | zero =>
    intro i r hi
    unfold ByteArray.toList.loop
    rw [if_neg (by omega), show bs.data.toList.drop i = [] from List.drop_eq_nil_of_le (by rw [Array.length_toList]; show bs.size ≤ i; omega), List.append_nil]
  | succ d ih =>
    intro i r hi
    have hlt : i < bs.data.toList.length := by rw [Array.length_toList]; show i < bs.size; omega
    unfold ByteArray.toList.loop
    rw [if_pos (by omega), ih (i + 1) _ (by omega), List.drop_eq_getElem_cons hlt]
    have e : bs.get! i = bs.data.toList[i] := by
      rw [Array.getElem_toList]
      show bs.data[i]! = _
      exact getElem!_pos bs.data i (by rw [← Array.length_toList]; exact hlt)
    rw [e]
    simp
theorem toList_data (bs : ByteArray) : bs.toList = bs.data.toList := toList_loop bs bs.size 0 [] (by omega)
theorem str_inj {A B : List Int} (hA : bts A) (hB : bts B) (h : (strOfNums A).toList = (strOfNums B).toList) : A = B := by
  rw [toList_data, toList_data] at h
  have h' : A.map (fun n => UInt8.ofNat n.toNat) = B.map (fun n => UInt8.ofNat n.toNat) := h
  have back : ∀ C : List Int, bts C → (C.map (fun n => UInt8.ofNat n.toNat)).map (fun u => (u.toNat : Int)) = C := by
    intro C hC
    rw [List.map_map]
    refine (List.map_congr_left (fun x hx => ?_)).trans (List.map_id C)
    have := hC x hx
    show ((UInt8.ofNat x.toNat).toNat : Int) = x
    rw [UInt8.toNat_ofNat']
    omega
  rw [← back A hA, ← back B hB, h']
theorem encN_bts : ∀ (k u : Nat), u < k → bts (encN u)
  | 0, u, h => absurd h (Nat.not_lt_zero _)
  | k + 1, u, h => by
    intro x hx
    by_cases hu : u < 128
    · rw [encN_short hu] at hx
      have : x = (u : Int) := by simpa using hx
      omega
    · rw [encN_long hu] at hx
      rcases List.mem_cons.1 hx with rfl | hx
      · omega
      · exact encN_bts k (u / 128) (by omega) x hx
theorem encN_cancel : ∀ (k u : Nat), u < k → ∀ (v : Nat) (l m : List Int), encN u ++ l = encN v ++ m → u = v ∧ l = m
  | 0, u, h, _, _, _, _ => absurd h (Nat.not_lt_zero _)
  | k + 1, u, h, v, l, m, e => by
    by_cases hu : u < 128
    · rw [encN_short hu] at e
      by_cases hv : v < 128
      · rw [encN_short hv] at e
        have e' := List.cons.inj (show (u : Int) :: l = (v : Int) :: m from e)
        exact ⟨by omega, e'.2⟩
      · rw [encN_long hv] at e
        have e' := List.cons.inj (show (u : Int) :: l = ((v % 128 + 128 : Nat) : Int) :: (encN (v / 128) ++ m) from e)
        omega
    · rw [encN_long hu] at e
      by_cases hv : v < 128
      · rw [encN_short hv] at e
        have e' := List.cons.inj (show ((u % 128 + 128 : Nat) : Int) :: (encN (u / 128) ++ l) = (v : Int) :: m from e)
        omega
      · rw [encN_long hv] at e
        have e' := List.cons.inj (show ((u % 128 + 128 : Nat) : Int) :: (encN (u / 128) ++ l) = ((v % 128 + 128 : Nat) : Int) :: (encN (v / 128) ++ m) from e)
        have ih := encN_cancel k (u / 128) (by omega) (v / 128) l m e'.2
        exact ⟨by omega, ih.2⟩
theorem foldN_inj {a b : Int} (h : foldN a = foldN b) : a = b := by
  unfold foldN at h
  split at h <;> split at h <;> omega
theorem enc_cancel {a b : Int} {l m : List Int} (e : encN (foldN a) ++ l = encN (foldN b) ++ m) : a = b ∧ l = m := by
  have h := encN_cancel _ (foldN a) (Nat.lt_succ_self _) (foldN b) l m e
  exact ⟨foldN_inj h.1, h.2⟩
theorem sealB_bts {b : List Int} (h : bts b) : bts (sealB b) := by
  intro x hx
  unfold sealB at hx
  rcases List.mem_append.1 hx with hx | hx
  · exact h x hx
  · generalize X.crc b = c at hx
    simp only [List.mem_cons, List.not_mem_nil, or_false] at hx
    omega
theorem sealB_inj {a b : List Int} (h : sealB a = sealB b) : a = b := by
  unfold sealB at h
  have hl : a.length = b.length := by
    have := congrArg List.length h
    simpa using this
  exact (List.append_inj h hl).1
theorem crc_word (l : List Int) (hl : bts l) : 0 ≤ X.crc l ∧ X.crc l < 4294967296 := by
  obtain ⟨r, h1, h2, _⟩ := crcFrom_reg l hl 4294967295 (by decide)
  have e : X.crc l = Go.bits .xor .u32 ((4294967295 : Nat) : Int) (r : Int) := by
    have h2' : crcFrom 4294967295 l = (r : Int) := h2
    show Go.bits .xor .u32 4294967295 (crcFrom 4294967295 l) = _
    rw [h2']
    rfl
  rw [e, xor_u32 _ _ (by decide) h1]
  have := word_xor (a := 4294967295) (b := r) (by decide) h1
  omega
/-! ### numbers out of a list -/
theorem keep_New (l0 : List Int) (h : ∀ x ∈ l0, (Lit.int .i64 x).wf = true) (hl : l0.length ≤ maxLen) : EvP (fun _ => shapesearchkeep_New.f l0) (fun r => Src r.1 r.2) := by
  have e : mn (l0.length : Int) 2000 = ((min l0.length 2000 : Nat) : Int) := by unfold mn; split <;> omega
  unfold shapesearchkeep_New.f
  rw [e]
  refine EvP.pos (by omega) (EvP.pos (by omega) (EvP.ret ?_))
  refine ⟨Int.le_refl _, by omega, by rw [List.length_take]; omega, fun x hx => b_i64 (h x (List.mem_of_mem_take hx))⟩
theorem keep_Raw (s : List Int) (a : Int) (h : Src s a) : EvP (fun _ => shapesearchkeep_Src_Raw.f s a) (fun r => Src s r.2 ∧ -9223372036854775808 ≤ r.1 ∧ r.1 ≤ 9223372036854775807) := by
  obtain ⟨h0, h1, h2, h3⟩ := h
  unfold shapesearchkeep_Src_Raw.f
  refine EvP.ite (fun hc => EvP.ret ⟨⟨h0, h1, h2, h3⟩, by omega, by omega⟩) (fun hc => ?_)
  have hw : wrap64 (a + 1) = a + 1 := w64 (by omega) (by omega)
  have hw2 : wrap64 (a + 1 - 1) = a := by rw [w64 (by omega) (by omega)]; omega
  rw [hw, hw2]
  have hm := h3 _ (rd_mem s a h0 (by omega))
  exact EvP.pos h0 (EvP.pos (by omega) (EvP.ret ⟨⟨by omega, by omega, h2, h3⟩, hm⟩))
theorem keep_Mod (a n : Int) (ha : -9223372036854775808 ≤ a) (ha' : a ≤ 9223372036854775807) (hn : 1 ≤ n) (hn' : n ≤ 9223372036854775807) : EvP (fun _ => shapesearchkeep_Mod.f a n) (fun t => 0 ≤ t ∧ t < n) := by
  have h1 := Int.tmod_lt_of_pos a (show 0 < n by omega)
  have h2 := Int.lt_tmod_of_pos a (show 0 < n by omega)
  unfold shapesearchkeep_Mod.f
  refine EvP.neg (by omega) (EvP.neg (by omega) (EvP.ite (fun hc => EvP.ret ?_) (fun hc => EvP.ret ?_)))
  · rw [w64 (by omega) (by omega)]
    omega
  · omega
theorem keep_N (s : List Int) (a n : Int) (h : Src s a) (hn : 1 ≤ n) (hn' : n ≤ 9223372036854775807) : EvP (fun _ => shapesearchkeep_Src_N.f s a n) (fun r => Src s r.2 ∧ 0 ≤ r.1 ∧ r.1 < n) := by
  unfold shapesearchkeep_Src_N.f
  refine EvP.bind (keep_Raw s a h) (fun x hx => EvP.bind (keep_Mod x.1 n hx.2.1 hx.2.2 hn hn') (fun t ht => EvP.ret ⟨hx.1, ht⟩))
theorem keep_Range (s : List Int) (a lo hi : Int) (h : Src s a) (hlo : -1000000000000 ≤ lo) (hlh : lo ≤ hi) (hhi : hi ≤ 1000000000000) : EvP (fun _ => shapesearchkeep_Src_Range.f s a lo hi) (fun r => Src s r.2 ∧ lo ≤ r.1 ∧ r.1 ≤ hi) := by
  have e1 : wrap64 (hi - lo) = hi - lo := w64 (by omega) (by omega)
  have e2 : wrap64 (hi - lo + 1) = hi - lo + 1 := w64 (by omega) (by omega)
  unfold shapesearchkeep_Src_Range.f
  rw [e1, e2]
  refine EvP.bind (keep_N s a (hi - lo + 1) h (by omega) (by omega)) (fun x hx => EvP.ret ⟨hx.1, ?_⟩)
  have e3 : wrap64 (lo + x.1) = lo + x.1 := w64 (by omega) (by omega)
  show lo ≤ wrap64 (lo + x.1) ∧ wrap64 (lo + x.1) ≤ hi
  rw [e3]
  omega
theorem keep_Pick (s : List Int) (a : Int) (l : List Int) (h : Src s a) (hl : 1 ≤ l.length) (hl' : l.length ≤ 1000000) : EvP (fun _ => shapesearchkeep_Src_Pick.f s a l) (fun r => Src s r.2 ∧ r.1 ∈ l) := by
  unfold shapesearchkeep_Src_Pick.f
  exact EvP.bind (keep_N s a l.length h (by omega) (by omega)) (fun x hx => EvP.pos hx.2.1 (EvP.pos hx.2.2 (EvP.ret ⟨hx.1, rd_mem l x.1 hx.2.1 hx.2.2⟩)))
theorem keep_clip (x : Int) : EvP (fun _ => shapesearchkeep_clip.f x) (fun t => -1000 ≤ t ∧ t ≤ 1000) := by
  unfold shapesearchkeep_clip.f
  refine EvP.ret ⟨le_mn (Int.le_trans (by omega) (le_mx_right _ _)) (by omega), mn_le_right _ _⟩
theorem keep_List_l0 (s : List Int) (n kind size : Int) (hs : 1 ≤ size ∧ size ≤ 1000) (hn : 0 ≤ n ∧ n ≤ 100000) (d : Nat) :
    ∀ (x : Int) (out : List Int) (a : Int), Src s a → Smp out → -1000 ≤ x → x ≤ 1000 → out.length + d = n →
      EvP (fun k => shapesearchkeep_Src_List.l0 k n kind size x out out.length s a) (fun r => Src s r.2 ∧ Smp r.1 ∧ (r.1.length : Int) = n) := by
  have es : wrap64 (-size) = -size := w64 (by omega) (by omega)
  induction d with
  | zero =>
    intro x out a h ho hx hx' hd
    refine EvP.step (fun k => by rw [shapesearchkeep_Src_List.l0]) ?_
    exact EvP.neg (by omega) (EvP.ret ⟨h, ho, by dsimp only; omega⟩)
  | succ d ih =>
    intro x out a h ho hx hx' hd
    have ew : wrap64 ((out.length : Int) + 1) = (out.length : Int) + 1 := w64 (by omega) (by omega)
    have el : ∀ y : Int, (out.length : Int) + 1 = ((out ++ [y]).length : Nat) := fun y => by simp
    have push : ∀ (x' y a' : Int), Src s a' → -1000 ≤ x' → x' ≤ 1000 → -1000 ≤ y → y ≤ 1000 → EvP (fun k => shapesearchkeep_Src_List.l0 k n kind size x' (out ++ [y]) (wrap64 ((out.length : Int) + 1)) s a') (fun r => Src s r.2 ∧ Smp r.1 ∧ (r.1.length : Int) = n) := by
      intro x' y a' ha h1 h2 h3 h4
      rw [ew, el y]
      exact ih x' (out ++ [y]) a' ha (ho.snoc h3 h4) h1 h2 (by simp; omega)
    have hL : out.length < 17592186044416 := by omega
    have j3 : ∀ b : Bool, EvP (fun k => shapesearchkeep_Src_List.j3 k n kind size x out out.length kind b s a) (fun r => Src s r.2 ∧ Smp r.1 ∧ (r.1.length : Int) = n) := by
      intro b
      refine EvP.step (fun k => by rw [shapesearchkeep_Src_List.j3]) ?_
      refine EvP.ite (fun _ => ?_) (fun _ => EvP.ite (fun _ => ?_) (fun _ => ?_))
      · rw [es]
        refine EvP.bind (keep_Range s a (-size) size h (by omega) (by omega) (by omega)) (fun q hq => ?_)
        refine EvP.bind (keep_clip _) (fun t ht => EvP.pos hL (push t t q.2 hq.1 ht.1 ht.2 ht.1 ht.2))
      · refine EvP.bind (keep_N s a 4 h (by omega) (by omega)) (fun q hq => EvP.ite (fun _ => ?_) (fun _ => EvP.pos hL (push x x q.2 hq.1 hx hx' hx hx')))
        rw [es]
        exact EvP.bind (keep_Range s q.2 (-size) size hq.1 (by omega) (by omega) (by omega)) (fun p hp => EvP.pos hL (push p.1 p.1 p.2 hp.1 (by omega) (by omega) (by omega) (by omega)))
      · refine EvP.bind (keep_Pick s a [-1000, 1000, 1000, 0] h (by simp) (by simp)) (fun q hq => EvP.pos hL (push x q.1 q.2 hq.1 hx hx' ?_ ?_)) <;>
        · have := hq.2
          simp at this
          omega
    have j2 : ∀ b : Bool, EvP (fun k => shapesearchkeep_Src_List.j2 k n kind size x out out.length kind b s a) (fun r => Src s r.2 ∧ Smp r.1 ∧ (r.1.length : Int) = n) := by
      intro b
      refine EvP.step (fun k => by rw [shapesearchkeep_Src_List.j2]) ?_
      refine EvP.ite (fun _ => ?_) (fun _ => EvP.ite (fun _ => j3 _) (fun _ => j3 _))
      rw [es]
      exact EvP.bind (keep_Range s a (-size) size h (by omega) (by omega) (by omega)) (fun q hq => EvP.pos hL (push x q.1 q.2 hq.1 hx hx' (by omega) (by omega)))
    refine EvP.step (fun k => by rw [shapesearchkeep_Src_List.l0]) ?_
    exact EvP.pos (by omega) (EvP.ite (fun _ => j2 _) (fun _ => j2 _))
theorem keep_List (s : List Int) (a n : Int) (h : Src s a) (hn : 0 ≤ n) (hn' : n ≤ 100000) : EvP (fun k => shapesearchkeep_Src_List.f k s a n) (fun r => Src s r.2 ∧ Smp r.1 ∧ (r.1.length : Int) = n) := by
  unfold shapesearchkeep_Src_List.f
  refine EvP.bind (keep_N s a 6 h (by omega) (by omega)) (fun p hp => EvP.bind (keep_Pick s p.2 [1, 3, 10, 100, 1000] hp.1 (by simp) (by simp)) (fun q hq => ?_))
  have hq2 : 1 ≤ q.1 ∧ q.1 ≤ 1000 := by
    have := hq.2
    simp at this
    omega
  have j0 : ∀ x a', Src s a' → -1000 ≤ x → x ≤ 1000 → EvP (fun k => shapesearchkeep_Src_List.j0 k n p.1 q.1 x s a') (fun r => Src s r.2 ∧ Smp r.1 ∧ (r.1.length : Int) = n) := by
    intro x a' ha h1 h2
    refine EvP.step (fun k => by rw [shapesearchkeep_Src_List.j0]) ?_
    exact keep_List_l0 s n p.1 q.1 hq2 ⟨hn, hn'⟩ n.toNat x [] a' ha Smp.nil h1 h2 (by simp; omega)
  refine EvP.bind (keep_N s q.2 3 hq.1 (by omega) (by omega)) (fun r hr => EvP.ite (fun _ => ?_) (fun _ => j0 0 r.2 hr.1 (by omega) (by omega)))
  exact EvP.bind (keep_Range s r.2 (-1000) 1000 hr.1 (by omega) (by omega) (by omega)) (fun v hv => j0 v.1 v.2 hv.1 (by omega) (by omega))
/-! ### bits of bytes -/
def byt (b : List Int) : Prop := ∀ x ∈ b, 0 ≤ x ∧ x ≤ 255
def tb (b : List Int) (m : Nat) : Bool := (b.getD (m / 8) 0).toNat.testBit (m % 8)
def bx (xs : List Int) (w m : Nat) : Bool := (xs.getD (m / w) 0).toNat.testBit (m % w)
theorem or_b : ∀ x < 256, ∀ j < 8, Go.bits .or .u8 ((x : Nat) : Int) (shl .u8 1 ((j : Nat) : Int)) = ((x ||| 2 ^ j : Nat) : Int) ∧ x ||| 2 ^ j < 256 := by decide +kernel
theorem xor_b : ∀ x < 256, ∀ j < 8, Go.bits .xor .u8 ((x : Nat) : Int) (shl .u8 1 ((j : Nat) : Int)) = ((x ^^^ 2 ^ j : Nat) : Int) ∧ x ^^^ 2 ^ j < 256 := by decide +kernel
theorem bit_b : ∀ x < 256, ∀ j < 8, wrap64 (Go.bits .and .u8 (((x : Nat) : Int) / 2 ^ j) 1) = if x.testBit j then 1 else 0 := by decide +kernel
theorem wi64' (n : Int) : IntKind.i64.wrap n = wrap64 n := by
  have e : (2 : Int) ^ IntKind.i64.bits = 18446744073709551616 := rfl
  simp [IntKind.wrap, IntKind.bits, IntKind.signed, wrap64] <;> omega
theorem bv64 (a : Nat) : BitVec.ofInt 64 (a : Int) = BitVec.ofNat 64 a := BitVec.ofInt_natCast 64 a
theorem and_i64 {a : Nat} (h : a < 9223372036854775808) : Go.bits .and .i64 (a : Int) 1 = ((a % 2 : Nat) : Int) := by
  have e : BitVec.ofInt 64 1 = 1#64 := by decide
  show IntKind.i64.wrap ((BitVec.ofInt 64 (a : Int) &&& BitVec.ofInt 64 1).toNat : Int) = _
  have k : (2 : Nat) ^ 64 = 18446744073709551616 := rfl
  rw [e, bv64, BitVec.toNat_and, BitVec.toNat_ofNat, wi64']
  have e3 : (1#64).toNat = 1 := rfl
  rw [e3, Nat.and_one_is_mod, k, Nat.mod_eq_of_lt (show a < 18446744073709551616 by omega), w64 (by omega) (by omega)]
theorem or_i64 {u v j : Nat} (hu : u < 2 ^ j) (h : u + v * 2 ^ j < 9223372036854775808) : Go.bits .or .i64 (u : Int) ((v * 2 ^ j : Nat) : Int) = ((u + v * 2 ^ j : Nat) : Int) := by
  show IntKind.i64.wrap ((BitVec.ofInt 64 (u : Int) ||| BitVec.ofInt 64 ((v * 2 ^ j : Nat) : Int)).toNat : Int) = _
  have k : (2 : Nat) ^ 64 = 18446744073709551616 := rfl
  have e3 := Nat.two_pow_add_eq_or_of_lt hu v
  rw [Nat.mul_comm (2 ^ j) v, Nat.or_comm] at e3
  rw [bv64, bv64, BitVec.toNat_or, BitVec.toNat_ofNat, BitVec.toNat_ofNat, wi64', k, Nat.mod_eq_of_lt (show u < 18446744073709551616 by omega), Nat.mod_eq_of_lt (show v * 2 ^ j < 18446744073709551616 by omega), ← e3, w64 (by omega) (by omega)]
  omega
theorem xor_i64 {a b : Nat} (ha : a < 4294967296) (hb : b < 4294967296) : Go.bits .xor .i64 (a : Int) (b : Int) = ((a ^^^ b : Nat) : Int) := by
  show IntKind.i64.wrap ((BitVec.ofInt 64 (a : Int) ^^^ BitVec.ofInt 64 (b : Int)).toNat : Int) = _
  have k : (2 : Nat) ^ 64 = 18446744073709551616 := rfl
  have h := Nat.xor_lt_two_pow (n := 32) ha hb
  have k2 : (2 : Nat) ^ 32 = 4294967296 := rfl
  rw [bv64, bv64, BitVec.toNat_xor, BitVec.toNat_ofNat, BitVec.toNat_ofNat, wi64', k, Nat.mod_eq_of_lt (show a < 18446744073709551616 by omega), Nat.mod_eq_of_lt (show b < 18446744073709551616 by omega), w64 (by omega) (by omega)]
theorem shl_i64 {v k : Nat} (hk : k ≤ 64) (h : v * 2 ^ k < 9223372036854775808) : shl .i64 (v : Int) (k : Int) = ((v * 2 ^ k : Nat) : Int) := by
  unfold shl
  have e : min ((k : Int)).toNat IntKind.i64.bits = k := by
    have : IntKind.i64.bits = 64 := rfl
    rw [this, Int.toNat_natCast]
    omega
  have e2 : (v : Int) * 2 ^ k = ((v * 2 ^ k : Nat) : Int) := by push_cast; rfl
  rw [e, e2, wi64', w64 (by omega) (by omega)]
theorem shr_i64 {v k : Nat} (hk : k ≤ 64) : shr .i64 (v : Int) (k : Int) = ((v / 2 ^ k : Nat) : Int) := by
  unfold shr
  have e : min ((k : Int)).toNat IntKind.i64.bits = k := by
    have : IntKind.i64.bits = 64 := rfl
    rw [this, Int.toNat_natCast]
    omega
  have e2 : (v : Int) / 2 ^ k = ((v / 2 ^ k : Nat) : Int) := by push_cast; rfl
  rw [e, e2]
theorem shl_one {k : Nat} (hk : k ≤ 32) : shl .i64 1 (k : Int) = ((2 ^ k : Nat) : Int) := by
  have hp : (2 : Nat) ^ k ≤ 2 ^ 32 := Nat.pow_le_pow_right (by omega) hk
  have h32 : (2 : Nat) ^ 32 = 4294967296 := rfl
  have := shl_i64 (v := 1) (k := k) (by omega) (by omega)
  rw [Nat.one_mul] at this
  exact this
theorem w_pos {i w k : Nat} (h : i * w + k ≤ 1000000) : wrap64 (wrap64 ((i : Int) * (w : Int)) + (k : Int)) = ((i * w + k : Nat) : Int) := by
  rw [← Int.natCast_mul, w64 (n := ((i * w : Nat) : Int)) (by omega) (by omega), w64 (by omega) (by omega)]
  omega
theorem w_div {a w : Nat} (h : a ≤ 1000000) : wrap64 (Int.tdiv (a : Int) (w : Int)) = ((a / w : Nat) : Int) := by
  have := Nat.div_le_self a w
  show wrap64 ((a / w : Nat) : Int) = _
  generalize a / w = q at *
  exact w64 (by omega) (by omega)
theorem w_div8 {a : Nat} (h : a ≤ 1000000) : wrap64 (Int.tdiv (a : Int) 8) = ((a / 8 : Nat) : Int) := w_div (w := 8) h
theorem t_mod (a w : Nat) : Int.tmod (a : Int) (w : Int) = ((a % w : Nat) : Int) := rfl
theorem t_mod8 (a : Nat) : Int.tmod (a : Int) 8 = ((a % 8 : Nat) : Int) := rfl
theorem w_mul {a b : Nat} (h : a * b ≤ 1000000) : wrap64 ((a : Int) * (b : Int)) = ((a * b : Nat) : Int) := by rw [← Int.natCast_mul, w64 (by omega) (by omega)]
theorem w_eight {a : Nat} (h : a ≤ 1000000) : wrap64 (8 * (a : Int)) = ((8 * a : Nat) : Int) := by rw [w64 (by omega) (by omega)]; omega
theorem test_i64 {v k : Nat} (hk : k ≤ 64) (hv : v < 9223372036854775808) : (Go.bits .and .i64 (shr .i64 (v : Int) (k : Int)) 1 = 1) ↔ v.testBit k = true := by
  have := Nat.div_le_self v (2 ^ k)
  rw [shr_i64 hk, and_i64 (by omega), Nat.testBit_eq_decide_div_mod_eq, decide_eq_true_iff]
  omega
theorem getD_at (b : List Int) (i : Nat) (h : i < b.length) : b.getD i 0 = b[i] := by rw [List.getD_eq_getElem?_getD, List.getElem?_eq_getElem h]; rfl
theorem rd_getD (b : List Int) (i : Nat) : rd b (i : Int) = b.getD i 0 := by unfold rd; rw [Int.toNat_natCast]
theorem byt_at {b : List Int} (hb : byt b) (i : Nat) : ∃ x : Nat, b.getD i 0 = (x : Int) ∧ x < 256 := by
  by_cases h : i < b.length
  · rw [getD_at b i h]
    have := hb b[i] (List.getElem_mem h)
    exact ⟨b[i].toNat, by omega, by omega⟩
  · refine ⟨0, ?_, by omega⟩
    rw [List.getD_eq_getElem?_getD, List.getElem?_eq_none (by omega)]
    rfl
theorem byt_set {b : List Int} (hb : byt b) (i : Nat) {x : Nat} (hx : x < 256) : byt (b.set i (x : Int)) := by
  intro z hz
  rcases List.mem_or_eq_of_mem_set hz with h | h
  · exact hb z h
  · omega
theorem tb_set {b : List Int} {i x m : Nat} (hi : i < b.length) : tb (b.set i (x : Int)) m = if m / 8 = i then x.testBit (m % 8) else tb b m := by
  unfold tb
  by_cases h : m / 8 = i
  · rw [if_pos h, h, getD_at _ _ (by rw [List.length_set]; exact hi), List.getElem_set_self, Int.toNat_natCast]
  · rw [if_neg h, List.getD_eq_getElem?_getD, List.getElem?_set_ne (fun e => h e.symm), ← List.getD_eq_getElem?_getD]
theorem tb_or {b : List Int} (hb : byt b) {a m : Nat} (ha : a / 8 < b.length) : byt (b.set (a / 8) (Go.bits .or .u8 (b.getD (a / 8) 0) (shl .u8 1 ((a % 8 : Nat) : Int)))) ∧ tb (b.set (a / 8) (Go.bits .or .u8 (b.getD (a / 8) 0) (shl .u8 1 ((a % 8 : Nat) : Int)))) m = (tb b m || decide (m = a)) := by
  obtain ⟨x, ex, hx⟩ := byt_at hb (a / 8)
  obtain ⟨e1, e2⟩ := or_b x hx (a % 8) (by omega)
  rw [ex, e1]
  refine ⟨byt_set hb _ e2, ?_⟩
  rw [tb_set ha]
  by_cases h : m / 8 = a / 8
  · rw [if_pos h, Nat.testBit_or, Nat.testBit_two_pow]
    unfold tb
    rw [h, ex, Int.toNat_natCast]
    congr 1
    rw [decide_eq_decide]
    omega
  · rw [if_neg h, decide_eq_false (by omega), Bool.or_false]
theorem tb_xor {b : List Int} (hb : byt b) {a m : Nat} (ha : a / 8 < b.length) : byt (b.set (a / 8) (Go.bits .xor .u8 (b.getD (a / 8) 0) (shl .u8 1 ((a % 8 : Nat) : Int)))) ∧ tb (b.set (a / 8) (Go.bits .xor .u8 (b.getD (a / 8) 0) (shl .u8 1 ((a % 8 : Nat) : Int)))) m = (tb b m ^^ decide (m = a)) := by
  obtain ⟨x, ex, hx⟩ := byt_at hb (a / 8)
  obtain ⟨e1, e2⟩ := xor_b x hx (a % 8) (by omega)
  rw [ex, e1]
  refine ⟨byt_set hb _ e2, ?_⟩
  rw [tb_set ha]
  by_cases h : m / 8 = a / 8
  · rw [if_pos h, Nat.testBit_xor, Nat.testBit_two_pow]
    unfold tb
    rw [h, ex, Int.toNat_natCast]
    congr 1
    rw [decide_eq_decide]
    omega
  · rw [if_neg h, decide_eq_false (by omega), Bool.xor_false]
theorem bitz_is {b : List Int} (hb : byt b) (m : Nat) : X.bitz b m = if tb b m then 1 else 0 := by
  obtain ⟨x, ex, hx⟩ := byt_at hb (m / 8)
  have := bit_b x hx (m % 8) (by omega)
  unfold X.bitz tb
  rw [rd_getD, ex, Int.toNat_natCast]
  exact this
/-- Bytes that hold the bits of numbers. -/
def Enc (b : List Int) (w : Nat) (xs : List Int) : Prop := byt b ∧ b.length = (w * xs.length + 7) / 8 ∧ ∀ m, m < 8 * b.length → tb b m = (decide (m < xs.length * w) && bx xs w m)
def Fit (w : Nat) (xs : List Int) : Prop := ∀ x ∈ xs, 0 ≤ x ∧ x < 2 ^ w
theorem fit_at {w : Nat} {xs : List Int} (h : Fit w xs) (i : Nat) (hi : i < xs.length) : ∃ v : Nat, xs.getD i 0 = (v : Int) ∧ v < 2 ^ w := by
  rw [getD_at xs i hi]
  have := h xs[i] (List.getElem_mem hi)
  refine ⟨xs[i].toNat, by omega, ?_⟩
  have e : ((xs[i].toNat : Nat) : Int) < ((2 ^ w : Nat) : Int) := by push_cast; omega
  omega
theorem mul_lt_of {i k w n : Nat} (hi : i < n) (hk : k < w) : i * w + k < n * w := by
  have h3 : (i + 1) * w ≤ n * w := Nat.mul_le_mul_right w (by omega)
  rw [Nat.add_mul, Nat.one_mul] at h3
  omega
theorem div_of {i k w : Nat} (hk : k < w) : (i * w + k) / w = i := by rw [Nat.mul_comm, Nat.mul_add_div (by omega), Nat.div_eq_of_lt hk, Nat.add_zero]
theorem mod_of {i k w : Nat} (hk : k < w) : (i * w + k) % w = k := by rw [Nat.mul_comm, Nat.mul_add_mod, Nat.mod_eq_of_lt hk]
theorem acc_is {bz : Nat → Int} {w i v : Nat} (hw : w ≤ 32) (hb : ∀ k, k < w → bz (i * w + k) = if v.testBit k then 1 else 0) : ∀ k, k ≤ w → X.acc bz w i k = ((v % 2 ^ k : Nat) : Int)
  | 0, _ => by simp [X.acc, Nat.mod_one]
  | k + 1, hk => by
    have ih := acc_is hw hb k (by omega)
    have hp : (2 : Nat) ^ k ≤ 2 ^ 31 := Nat.pow_le_pow_right (by omega) (by omega)
    have h31 : (2 : Nat) ^ 31 = 2147483648 := rfl
    have hm := Nat.mod_lt v (show 0 < 2 ^ k from Nat.pow_pos (by omega))
    have eb : bz (i * w + k) = ((v / 2 ^ k % 2 : Nat) : Int) := by
      rw [hb k (by omega), Nat.testBit_eq_decide_div_mod_eq]
      have := Nat.mod_lt (v / 2 ^ k) (show 0 < 2 by omega)
      by_cases h : v / 2 ^ k % 2 = 1
      · rw [if_pos (decide_eq_true h), h]
        rfl
      · rw [if_neg (by simpa using h), show v / 2 ^ k % 2 = 0 by omega]
        rfl
    have hle : v / 2 ^ k % 2 * 2 ^ k ≤ 1 * 2 ^ k := Nat.mul_le_mul_right _ (by have := Nat.mod_lt (v / 2 ^ k) (show 0 < 2 by omega); omega)
    show Go.bits .or .i64 (X.acc bz w i k) (shl .i64 (bz (i * w + k)) (k : Int)) = _
    rw [ih, eb, shl_i64 (by omega) (by omega), or_i64 hm (by omega), Nat.mod_pow_succ, Nat.mul_comm (2 ^ k)]
theorem unp_is {b : List Int} {w : Nat} {xs : List Int} (hw : w ≤ 32) (he : Enc b w xs) (hf : Fit w xs) : X.unp (X.bitz b) w xs.length = xs := by
  unfold X.unp
  apply List.ext_getElem
  · simp
  intro i h1 h2
  rw [List.getElem_map, List.getElem_range]
  obtain ⟨v, ev, hv⟩ := fit_at hf i h2
  rw [acc_is (v := v) hw (fun k hk => ?_) w (Nat.le_refl _), Nat.mod_eq_of_lt hv, ← ev, getD_at xs i h2]
  have hlt := mul_lt_of h2 hk
  rw [bitz_is he.1, he.2.2 _ (by rw [he.2.1]; rw [Nat.mul_comm w]; omega), decide_eq_true hlt, Bool.true_and]
  unfold bx
  rw [div_of hk, mod_of hk, ev, Int.toNat_natCast]
theorem pad_is {b : List Int} {w : Nat} {xs : List Int} (he : Enc b w xs) : X.padb (X.bitz b) (w * xs.length) (8 * b.length) = true := by
  unfold X.padb
  rw [List.all_eq_true]
  intro j hj
  have := List.mem_range.1 hj
  rw [beq_iff_eq, bitz_is he.1, he.2.2 _ (by omega), decide_eq_false (by rw [Nat.mul_comm]; omega), Bool.false_and]
  rfl
theorem size_is {w n : Nat} (hw : w ≤ 32) (hn : n ≤ 2000) : codec_size.f (w : Int) (n : Int) = some (((w * n + 7) / 8 : Nat) : Int) := by
  have hwn : w * n ≤ 64000 := Nat.mul_le_mul hw hn
  unfold codec_size.f
  rw [← Int.natCast_mul, w64 (n := ((w * n : Nat) : Int)) (by omega) (by omega), w64 (n := ((w * n : Nat) : Int) + 7) (by omega) (by omega), Int.tdiv_eq_ediv_of_nonneg (by omega), w64 (by omega) (by omega)]
  rfl
theorem unpack_is {b : List Int} {w : Nat} {xs : List Int} (hw : w ≤ 32) (hn : xs.length ≤ 2000) (he : Enc b w xs) (hf : Fit w xs) : codec_Unpack.f b (w : Int) (xs.length : Int) = some (xs, 0) := by
  unfold codec_Unpack.f
  rw [if_neg (by omega), if_neg (by omega), size_is hw hn]
  show (if (b.length : Int) = (((w * xs.length + 7) / 8 : Nat) : Int) then _ else _) = _
  rw [if_pos (by rw [he.2.1])]
  simp only [Int.toNat_natCast, if_true]
  rw [if_pos (pad_is he), unp_is hw he hf]
/-! ### numbers packed -/
theorem pack_l1 {w : Nat} (hw : w ≤ 32) {xs : List Int} (hn : xs.length ≤ 2000) (i : Nat) (hi : i < xs.length) {v : Nat} (ev : xs.getD i 0 = (v : Int)) (hv : v < 2 ^ w) (Q : List Int × Int → Prop) (L : Nat) (hL : L = (w * xs.length + 7) / 8)
    (next : ∀ b, byt b → b.length = L → (∀ m, m < 8 * L → tb b m = (decide (m < (i + 1) * w) && bx xs w m)) → EvP (fun k => codec_Pack.l0 k (w : Int) b xs (xs.length : Int) ((i + 1 : Nat) : Int)) Q) (d : Nat) :
    ∀ (k : Nat) (b : List Int), k + d = w → byt b → b.length = L → (∀ m, m < 8 * L → tb b m = (decide (m < i * w + k) && bx xs w m)) →
      EvP (fun n => codec_Pack.l1 n (w : Int) b (i : Int) (xs.getD i 0) xs (xs.length : Int) (i : Int) (w : Int) (k : Int)) Q := by
  have hwn : w * xs.length ≤ 64000 := Nat.mul_le_mul hw hn
  have hv32 : v < 9223372036854775808 := by
    have hp : (2 : Nat) ^ w ≤ 2 ^ 32 := Nat.pow_le_pow_right (by omega) hw
    have h32 : (2 : Nat) ^ 32 = 4294967296 := rfl
    omega
  induction d with
  | zero =>
    intro k b hk hb hl ht
    refine EvP.step (fun n => by rw [codec_Pack.l1]) (EvP.neg (by omega) ?_)
    rw [w_succ (by omega)]
    refine next b hb hl (fun m hm => ?_)
    rw [ht m hm, Nat.add_mul, Nat.one_mul, show k = w by omega]
  | succ d ih =>
    intro k b hk hb hl ht
    have hkw : k < w := by omega
    have hlt := mul_lt_of hi hkw
    have hc := Nat.mul_comm w xs.length
    have hbx : bx xs w (i * w + k) = v.testBit k := by
      unfold bx
      rw [div_of hkw, mod_of hkw, ev, Int.toNat_natCast]
    have hia : (i * w + k) / 8 < b.length := by omega
    have ih' := ih (k + 1)
    clear ih
    have step : ∀ m : Nat, m < 8 * L → decide (m < i * w + (k + 1)) = (decide (m < i * w + k) || decide (m = i * w + k)) := by
      intro m hm
      rw [← Bool.decide_or, decide_eq_decide]
      omega
    refine EvP.step (fun n => by rw [codec_Pack.l1]) (EvP.pos (by omega) (EvP.pos (by omega) ?_))
    rw [w_pos (by omega), w_div8 (by omega), t_mod8, ev, w_succ (by omega), rd_getD]
    rw [ev] at ih'
    have hkd : k + 1 + d = w := by omega
    refine EvP.ite (fun ht1 => EvP.pos (by omega) (EvP.pos (by omega) (EvP.pos (by omega) ?_))) (fun ht1 => ?_)
    · have hbit := (test_i64 (by omega) hv32).1 ht1
      rw [Int.toNat_natCast]
      refine ih' _ hkd (tb_or hb (m := 0) hia).1 (by rw [List.length_set]; exact hl) (fun m hm => ?_)
      rw [(tb_or hb (m := m) hia).2, ht m hm, step m hm]
      by_cases hmm : m = i * w + k
      · rw [hmm, hbx, hbit]
        simp
      · rw [decide_eq_false hmm, Bool.or_false, Bool.or_false]
    · have hbit : v.testBit k = false := by
        cases h : v.testBit k with
        | false => rfl
        | true => exact absurd ((test_i64 (by omega) hv32).2 h) ht1
      refine ih' b hkd hb hl (fun m hm => ?_)
      rw [ht m hm, step m hm]
      by_cases hmm : m = i * w + k
      · rw [hmm, hbx, hbit]
        simp
      · rw [decide_eq_false hmm, Bool.or_false]
theorem pack_l0 {w : Nat} (hw : w ≤ 32) {xs : List Int} (hn : xs.length ≤ 2000) (hf : Fit w xs) (L : Nat) (hL : L = (w * xs.length + 7) / 8) (d : Nat) :
    ∀ (i : Nat) (b : List Int), i + d = xs.length → byt b → b.length = L → (∀ m, m < 8 * L → tb b m = (decide (m < i * w) && bx xs w m)) →
      EvP (fun n => codec_Pack.l0 n (w : Int) b xs (xs.length : Int) (i : Int)) (fun r => r.2 = 0 ∧ Enc r.1 w xs) := by
  induction d with
  | zero =>
    intro i b hi hb hl ht
    refine EvP.step (fun n => by rw [codec_Pack.l0]) (EvP.neg (by omega) (EvP.ret ⟨rfl, hb, by rw [hl, hL], fun m hm => ?_⟩))
    dsimp only at hm
    rw [hl] at hm
    rw [ht m hm, show i = xs.length by omega]
  | succ d ih =>
    intro i b hi hb hl ht
    have hlt : i < xs.length := by omega
    obtain ⟨v, ev, hv⟩ := fit_at hf i hlt
    refine EvP.step (fun n => by rw [codec_Pack.l0]) (EvP.pos (by omega) (EvP.pos (by omega) (EvP.pos (by omega) ?_)))
    rw [rd_getD, shl_one hw]
    refine EvP.neg (by rw [ev]; omega) (EvP.pos (by omega) (EvP.step (fun n => by rw [codec_Pack.j2]) (EvP.neg (by rw [ev, decide_eq_false (by omega)]; simp) ?_)))
    exact pack_l1 hw hn i hlt ev hv _ L hL (fun b' h1 h2 h3 => ih (i + 1) b' (by omega) h1 h2 h3) w 0 b (by omega) hb hl (fun m hm => by rw [ht m hm, Nat.add_zero])
theorem pack_is {w : Nat} (hw : w ≤ 32) {xs : List Int} (hn : xs.length ≤ 2000) (hf : Fit w xs) : EvP (fun n => codec_Pack.f n xs (w : Int)) (fun r => r.2 = 0 ∧ Enc r.1 w xs) := by
  have hwn : w * xs.length ≤ 64000 := Nat.mul_le_mul hw hn
  unfold codec_Pack.f
  refine EvP.neg (by omega) (EvP.step (fun n => by rw [codec_Pack.j0]) (EvP.neg (by simp; omega) (EvP.neg (by omega) ?_)))
  rw [size_is hw hn]
  refine EvP.bind1 (Ev.now _) (EvP.pos (by omega) (EvP.pos (by omega) ?_))
  rw [Int.toNat_natCast]
  refine pack_l0 hw hn hf _ rfl xs.length 0 _ (by omega) (fun x hx => ?_) (by rw [List.length_replicate]) (fun m hm => ?_)
  · rw [(List.mem_replicate.1 hx).2]
    omega
  · rw [decide_eq_false (by omega), Bool.false_and]
    unfold tb
    rw [List.getD_eq_getElem?_getD, List.getElem?_replicate]
    split <;> simp
/-! ### the number of bits -/
def okL (n : Nat) (r : Option Int) : Bool := match r with
  | some t => decide (0 ≤ t ∧ t ≤ 8 ∧ n < 2 ^ t.toNat ∧ ((n = 0 ∧ t = 0) ∨ (1 ≤ t ∧ 2 ^ (t.toNat - 1) ≤ n)))
  | none => false
theorem len8 : ∀ n < 256, okL n (bits_Len.f 1 ((n : Nat) : Int)) = true := by decide +kernel
theorem len_tab (q : Nat) (hq : q < 256) : ∃ z : Int, (∀ k, bits_Len.f (k + 1) (q : Int) = some (wrap64 (0 + z))) ∧
    (∀ n : Nat, 256 ≤ n → n < 65536 → n / 256 = q → ∀ k, bits_Len.f (k + 1) (n : Int) = some (wrap64 (wrap64 (0 + 8) + z))) ∧
    (∀ n : Nat, 65536 ≤ n → n < 16777216 → n / 65536 = q → ∀ k, bits_Len.f (k + 1) (n : Int) = some (wrap64 (wrap64 (0 + 16) + z))) := by
  refine ⟨?z, fun k => ?_, fun n h1 h2 h3 k => ?_, fun n h1 h2 h3 k => ?_⟩
  rotate_left
  · unfold bits_Len.f bits_Len64.f
    rw [if_neg (by omega), bits_Len64.j0, if_neg (by omega), if_neg (by omega), if_pos (by omega), if_pos (by omega)]
    rfl
  · unfold bits_Len.f bits_Len64.f
    have e : (n : Int) / 256 = (q : Int) := by omega
    rw [if_neg (by omega), bits_Len64.j0, if_neg (by omega), if_pos (by omega), e, if_pos (by omega), if_pos (by omega)]
    rfl
  · unfold bits_Len.f bits_Len64.f
    have e : (n : Int) / 65536 = (q : Int) := by omega
    rw [if_neg (by omega), bits_Len64.j0, if_pos (by omega), e, if_neg (by omega), if_pos (by omega), if_pos (by omega)]
    rfl
theorem w_z8 {z : Int} (h0 : 0 ≤ wrap64 (0 + z)) (h1 : wrap64 (0 + z) ≤ 8) : wrap64 (wrap64 (0 + 8) + z) = 8 + wrap64 (0 + z) := by unfold wrap64 at *; omega
theorem w_z16 {z : Int} (h0 : 0 ≤ wrap64 (0 + z)) (h1 : wrap64 (0 + z) ≤ 8) : wrap64 (wrap64 (0 + 16) + z) = 16 + wrap64 (0 + z) := by unfold wrap64 at *; omega
theorem len_is {n : Nat} (hn : n < 524288) : ∃ t : Nat, Ev (fun k => bits_Len.f k (n : Int)) (t : Int) ∧ t ≤ 24 ∧ n < 2 ^ t ∧ ((n = 0 ∧ t = 0) ∨ (1 ≤ t ∧ 2 ^ (t - 1) ≤ n)) := by
  have tab : ∀ q : Nat, q < 256 → ∃ s : Nat, ∃ z : Int, wrap64 (0 + z) = (s : Int) ∧ s ≤ 8 ∧ q < 2 ^ s ∧ ((q = 0 ∧ s = 0) ∨ (1 ≤ s ∧ 2 ^ (s - 1) ≤ q)) ∧ (∀ k, bits_Len.f (k + 1) (q : Int) = some (wrap64 (0 + z))) ∧
      (∀ n : Nat, 256 ≤ n → n < 65536 → n / 256 = q → ∀ k, bits_Len.f (k + 1) (n : Int) = some (wrap64 (wrap64 (0 + 8) + z))) ∧
      (∀ n : Nat, 65536 ≤ n → n < 16777216 → n / 65536 = q → ∀ k, bits_Len.f (k + 1) (n : Int) = some (wrap64 (wrap64 (0 + 16) + z))) := by
    intro q hq
    obtain ⟨z, a, b, c⟩ := len_tab q hq
    have h := len8 q hq
    rw [a 0] at h
    have h' := of_decide_eq_true h
    refine ⟨(wrap64 (0 + z)).toNat, z, ?_, ?_, h'.2.2.1, ?_, a, b, c⟩
    · rw [Int.toNat_of_nonneg h'.1]
    · have h1 := h'.1
      have h2 := h'.2.1
      generalize wrap64 (0 + z) = y at *
      omega
    · rcases h'.2.2.2 with ⟨h1, h2⟩ | ⟨h1, h2⟩
      · exact .inl ⟨h1, by rw [h2]; rfl⟩
      · refine .inr ⟨?_, h2⟩
        generalize wrap64 (0 + z) = y at *
        omega
  have ev : ∀ (m : Nat) (r : Int), (∀ k, bits_Len.f (k + 1) (m : Int) = some r) → Ev (fun k => bits_Len.f k (m : Int)) r := fun m r h => Ev.step (f := fun _ => some r) h (Ev.now r)
  by_cases c1 : n < 256
  · obtain ⟨s, z, e, s8, h1, h2, h3, _, _⟩ := tab n c1
    refine ⟨s, ev n s (fun k => by rw [h3 k, e]), by omega, h1, h2⟩
  by_cases c2 : n < 65536
  · obtain ⟨s, z, e, s8, h1, h2, _, h3, _⟩ := tab (n / 256) (by omega)
    have h4 := h3 n (by omega) c2 rfl
    clear h3
    have e2 := w_z8 (z := z) (by rw [e]; omega) (by rw [e]; omega)
    rw [e] at e2
    refine ⟨8 + s, ev n _ (fun k => by rw [h4 k, e2]; rfl), by clear e2 e; omega, ?_, ?_⟩
    · clear e2 e
      rw [Nat.pow_add, show (2 : Nat) ^ 8 = 256 from rfl]
      omega
    · clear e2 e
      have hs : 1 ≤ s := by omega
      refine .inr ⟨by omega, ?_⟩
      rw [show 8 + s - 1 = 8 + (s - 1) by omega, Nat.pow_add, show (2 : Nat) ^ 8 = 256 from rfl]
      omega
  · obtain ⟨s, z, e, s8, h1, h2, _, _, h3⟩ := tab (n / 65536) (by omega)
    have h4 := h3 n (by omega) (by omega) rfl
    clear h3
    have e2 := w_z16 (z := z) (by rw [e]; omega) (by rw [e]; omega)
    rw [e] at e2
    refine ⟨16 + s, ev n _ (fun k => by rw [h4 k, e2]; rfl), by clear e2 e; omega, ?_, ?_⟩
    · clear e2 e
      rw [Nat.pow_add, show (2 : Nat) ^ 16 = 65536 from rfl]
      omega
    · clear e2 e
      have hs : 1 ≤ s := by omega
      refine .inr ⟨by omega, ?_⟩
      rw [show 16 + s - 1 = 16 + (s - 1) by omega, Nat.pow_add, show (2 : Nat) ^ 16 = 65536 from rfl]
      omega
def Low (w : Nat) (xs : List Int) : Prop := w = 0 ∨ ∃ x ∈ xs, ((2 ^ (w - 1) : Nat) : Int) ≤ x
def Sml (xs : List Int) : Prop := ∀ x ∈ xs, 0 ≤ x ∧ x < 524288
theorem sml_at {xs : List Int} (h : Sml xs) (i : Nat) (hi : i < xs.length) : ∃ v : Nat, xs.getD i 0 = (v : Int) ∧ v < 524288 := by
  rw [getD_at xs i hi]
  have := h xs[i] (List.getElem_mem hi)
  exact ⟨xs[i].toNat, by omega, by omega⟩
theorem mx_nat (t s : Nat) : mx (t : Int) (s : Int) = ((max t s : Nat) : Int) := by unfold mx; split <;> omega
theorem width_l0 {xs : List Int} (hn : xs.length ≤ 2000) (hx : Sml xs) (d : Nat) :
    ∀ (i t : Nat), i + d = xs.length → t ≤ 24 → (∀ j, j < i → (xs.getD j 0).toNat < 2 ^ t) → Low t xs →
      EvP (fun k => codec_Width.l0 k (t : Int) xs (xs.length : Int) (i : Int)) (fun r => ∃ w : Nat, r = (w : Int) ∧ w ≤ 24 ∧ Fit w xs ∧ Low w xs) := by
  induction d with
  | zero =>
    intro i t hi ht hj hl
    refine EvP.step (fun k => by rw [codec_Width.l0]) (EvP.neg (by omega) (EvP.ret ⟨t, rfl, ht, fun x hxx => ?_, hl⟩))
    obtain ⟨j, hjl, rfl⟩ := List.getElem_of_mem hxx
    have h1 := hj j (by omega)
    have h2 := hx xs[j] hxx
    rw [getD_at xs j hjl] at h1
    have ep : (2 : Int) ^ t = ((2 ^ t : Nat) : Int) := by push_cast; rfl
    rw [ep]
    omega
  | succ d ih =>
    intro i t hi ht hj hl
    have hlt : i < xs.length := by omega
    obtain ⟨v, ev, hv⟩ := sml_at hx i hlt
    obtain ⟨s, hs, s24, hvs, hsl⟩ := len_is hv
    refine EvP.step (fun k => by rw [codec_Width.l0]) (EvP.pos (by omega) (EvP.pos (by omega) (EvP.pos (by omega) ?_)))
    rw [rd_getD, ev, wu64, w_succ (by omega)]
    refine EvP.neg (by omega) (EvP.neg (by omega) ?_)
    rw [show (v : Int) % 18446744073709551616 = (v : Int) by omega]
    refine EvP.bind1 hs ?_
    rw [mx_nat]
    refine ih (i + 1) (max t s) (by omega) (by omega) (fun j hjj => ?_) ?_
    · have p1 : 2 ^ t ≤ 2 ^ max t s := Nat.pow_le_pow_right (by omega) (by omega)
      have p2 : 2 ^ s ≤ 2 ^ max t s := Nat.pow_le_pow_right (by omega) (by omega)
      by_cases hji : j = i
      · rw [hji, ev, Int.toNat_natCast]
        omega
      · have := hj j (by omega)
        omega
    · by_cases hts : s ≤ t
      · rw [Nat.max_eq_left hts]
        exact hl
      · rw [Nat.max_eq_right (by omega)]
        refine .inr ⟨xs[i], List.getElem_mem hlt, ?_⟩
        rw [← getD_at xs i hlt, ev]
        have h2 : 2 ^ (s - 1) ≤ v := by
          rcases hsl with h | h
          · omega
          · exact h.2
        omega
theorem width_is {xs : List Int} (hn : xs.length ≤ 2000) (hx : Sml xs) : EvP (fun k => codec_Width.f k xs) (fun r => ∃ w : Nat, r = (w : Int) ∧ w ≤ 24 ∧ Fit w xs ∧ Low w xs) := by
  have := width_l0 hn hx xs.length 0 0 (by omega) (by omega) (fun j hj => by omega) (.inl rfl)
  exact this
/-! ### the least, the greatest, the sum -/
def minL (x : List Int) : Int := (x.drop 1).foldl mn (rd x 0)
def maxL (x : List Int) : Int := (x.drop 1).foldl mx (rd x 0)
def addW (a b : Int) : Int := wrap64 (a + b)
def totL (x : List Int) : Int := x.foldl addW 0
theorem min_l0 (x : List Int) (hn : x.length ≤ 1000000) (d : Nat) : ∀ (i : Nat) (m : Int), i + d = x.length → Ev (fun k => slices_Min_int_int.l0 k x m (i : Int)) ((x.drop i).foldl mn m) := by
  induction d with
  | zero =>
    intro i m hi
    rw [List.drop_eq_nil_of_le (by omega)]
    refine Ev.step (fun k => by rw [slices_Min_int_int.l0]) ?_
    exact Ev.neg (by omega) (Ev.now _)
  | succ d ih =>
    intro i m hi
    have hlt : i < x.length := by omega
    rw [List.drop_eq_getElem_cons hlt, List.foldl_cons]
    refine Ev.step (fun k => by rw [slices_Min_int_int.l0]) (Ev.pos (by omega) (Ev.pos (by omega) ?_))
    rw [rd_nat x i hlt, w_succ (by omega)]
    exact ih (i + 1) _ (by omega)
theorem max_l0 (x : List Int) (hn : x.length ≤ 1000000) (d : Nat) : ∀ (i : Nat) (m : Int), i + d = x.length → Ev (fun k => slices_Max_int_int.l0 k x m (i : Int)) ((x.drop i).foldl mx m) := by
  induction d with
  | zero =>
    intro i m hi
    rw [List.drop_eq_nil_of_le (by omega)]
    refine Ev.step (fun k => by rw [slices_Max_int_int.l0]) ?_
    exact Ev.neg (by omega) (Ev.now _)
  | succ d ih =>
    intro i m hi
    have hlt : i < x.length := by omega
    rw [List.drop_eq_getElem_cons hlt, List.foldl_cons]
    refine Ev.step (fun k => by rw [slices_Max_int_int.l0]) (Ev.pos (by omega) (Ev.pos (by omega) ?_))
    rw [rd_nat x i hlt, w_succ (by omega)]
    exact ih (i + 1) _ (by omega)
theorem min_is {x : List Int} (h1 : 1 ≤ x.length) (hn : x.length ≤ 1000000) : Ev (fun k => slices_Min_int_int.f k x) (minL x) := by
  unfold slices_Min_int_int.f
  exact Ev.neg (by omega) (Ev.pos (by omega) (min_l0 x hn (x.length - 1) 1 _ (by omega)))
theorem max_is {x : List Int} (h1 : 1 ≤ x.length) (hn : x.length ≤ 1000000) : Ev (fun k => slices_Max_int_int.f k x) (maxL x) := by
  unfold slices_Max_int_int.f
  exact Ev.neg (by omega) (Ev.pos (by omega) (max_l0 x hn (x.length - 1) 1 _ (by omega)))
theorem tot_l0 (x : List Int) (hn : x.length ≤ 1000000) (d : Nat) : ∀ (i : Nat) (m : Int), i + d = x.length → Ev (fun k => segment_total.l0 k m x (x.length : Int) (i : Int)) ((x.drop i).foldl addW m) := by
  induction d with
  | zero =>
    intro i m hi
    rw [List.drop_eq_nil_of_le (by omega)]
    refine Ev.step (fun k => by rw [segment_total.l0]) ?_
    exact Ev.neg (by omega) (Ev.now _)
  | succ d ih =>
    intro i m hi
    have hlt : i < x.length := by omega
    rw [List.drop_eq_getElem_cons hlt, List.foldl_cons]
    refine Ev.step (fun k => by rw [segment_total.l0]) (Ev.pos (by omega) (Ev.pos (by omega) (Ev.pos (by omega) ?_)))
    rw [rd_nat x i hlt, w_succ (by omega)]
    exact ih (i + 1) _ (by omega)
theorem tot_is {x : List Int} (hn : x.length ≤ 1000000) : Ev (fun k => segment_total.f k x) (totL x) := by
  unfold segment_total.f
  exact tot_l0 x hn x.length 0 0 (by omega)
theorem fold_mn : ∀ (l : List Int) (m : Int), l.foldl mn m ≤ m ∧ (∀ y ∈ l, l.foldl mn m ≤ y) ∧ (l.foldl mn m = m ∨ l.foldl mn m ∈ l)
  | [], m => ⟨Int.le_refl _, fun y h => (by cases h), .inl rfl⟩
  | a :: t, m => by
    obtain ⟨h1, h2, h3⟩ := fold_mn t (mn m a)
    rw [List.foldl_cons]
    have g1 := mn_le_left m a
    have g2 := mn_le_right m a
    refine ⟨by omega, fun y hy => ?_, ?_⟩
    · rcases List.mem_cons.1 hy with rfl | hy
      · omega
      · exact h2 y hy
    · rcases h3 with h3 | h3
      · rw [h3]
        unfold mn
        split
        · exact .inr (List.mem_cons_self ..)
        · exact .inl rfl
      · exact .inr (List.mem_cons_of_mem _ h3)
theorem fold_mx : ∀ (l : List Int) (m : Int), m ≤ l.foldl mx m ∧ (∀ y ∈ l, y ≤ l.foldl mx m) ∧ (l.foldl mx m = m ∨ l.foldl mx m ∈ l)
  | [], m => ⟨Int.le_refl _, fun y h => (by cases h), .inl rfl⟩
  | a :: t, m => by
    obtain ⟨h1, h2, h3⟩ := fold_mx t (mx m a)
    rw [List.foldl_cons]
    have g1 := le_mx_left m a
    have g2 := le_mx_right m a
    refine ⟨by omega, fun y hy => ?_, ?_⟩
    · rcases List.mem_cons.1 hy with rfl | hy
      · omega
      · exact h2 y hy
    · rcases h3 with h3 | h3
      · rw [h3]
        unfold mx
        split
        · exact .inr (List.mem_cons_self ..)
        · exact .inl rfl
      · exact .inr (List.mem_cons_of_mem _ h3)
theorem hd_cons {x : List Int} (h : 1 ≤ x.length) : x = rd x 0 :: x.drop 1 := by
  cases x with
  | nil => simp at h
  | cons a t => rfl
theorem minL_le {x : List Int} (h : 1 ≤ x.length) : (∀ y ∈ x, minL x ≤ y) ∧ minL x ∈ x := by
  obtain ⟨h1, h2, h3⟩ := fold_mn (x.drop 1) (rd x 0)
  have e := hd_cons h
  refine ⟨fun y hy => ?_, ?_⟩
  · rw [e] at hy
    rcases List.mem_cons.1 hy with rfl | hy
    · exact h1
    · exact h2 y hy
  · rw [e]
    rcases h3 with h3 | h3
    · have : minL x = rd x 0 := h3
      rw [← e, this]
      rw [e]
      exact List.mem_cons_self ..
    · rw [← e]
      exact List.mem_of_mem_drop h3
theorem le_maxL {x : List Int} (h : 1 ≤ x.length) : (∀ y ∈ x, y ≤ maxL x) ∧ maxL x ∈ x := by
  obtain ⟨h1, h2, h3⟩ := fold_mx (x.drop 1) (rd x 0)
  have e := hd_cons h
  refine ⟨fun y hy => ?_, ?_⟩
  · rw [e] at hy
    rcases List.mem_cons.1 hy with rfl | hy
    · exact h1
    · exact h2 y hy
  · rcases h3 with h3 | h3
    · have : maxL x = rd x 0 := h3
      rw [this]
      exact rd_mem x 0 (by omega) (by omega)
    · exact List.mem_of_mem_drop h3
theorem totL_range (x : List Int) : -9223372036854775808 ≤ totL x ∧ totL x ≤ 9223372036854775807 := by
  have h : ∀ (l : List Int) (m : Int), -9223372036854775808 ≤ m ∧ m ≤ 9223372036854775807 → -9223372036854775808 ≤ l.foldl addW m ∧ l.foldl addW m ≤ 9223372036854775807 := by
    intro l
    induction l with
    | nil => intro m h; exact h
    | cons a t ih => intro m h; exact ih _ ⟨w64_lo _, w64_hi _⟩
  exact h x 0 (by omega)
/-- Samples of a segment. -/
def Sgm (x : List Int) : Prop := Smp x ∧ 1 ≤ x.length ∧ x.length ≤ 64
theorem sgm_range {x : List Int} (h : Sgm x) : -1000 ≤ minL x ∧ minL x ≤ maxL x ∧ maxL x ≤ 1000 := by
  have a := minL_le h.2.1
  have b := le_maxL h.2.1
  have c := h.1 _ a.2
  have d := h.1 _ b.2
  have e := b.1 _ a.2
  omega
theorem proper_is {x : List Int} (h : Sgm x) : Ev (fun k => segment_proper.f k x) 0 := by
  have hr := sgm_range h
  obtain ⟨h0, h1, h2⟩ := h
  unfold segment_proper.f
  refine Ev.neg (by omega) ?_
  rw [decide_eq_false (by omega)]
  refine Ev.step (fun k => by rw [segment_proper.j0]) (Ev.neg (by decide) ?_)
  refine Ev.bind (min_is h1 (by omega)) (Ev.neg (by omega) ?_)
  exact Ev.bind (max_is h1 (by omega)) (Ev.neg (by omega) (Ev.now _))
/-! ### the three forms -/
theorem constant_is {x : List Int} (h : Sgm x) : Ev (fun k => segment_constant_encode.f k x) ([], minL x == maxL x) := by
  obtain ⟨h0, h1, h2⟩ := h
  unfold segment_constant_encode.f
  exact Ev.bind (min_is h1 (by omega)) (Ev.bind (max_is h1 (by omega)) (Ev.now _))
def offs (x : List Int) : List Int := x.map (· - minL x)
theorem packed_l0 (x : List Int) (lo : Int) (hn : x.length ≤ 1000000) (hx : ∀ y ∈ x, -9000 ≤ y - lo ∧ y - lo ≤ 9000) (Q : List Int × Bool → Prop) (hQ : EvP (fun k => (codec_Width.f k (x.map (· - lo))).bind fun t => (codec_Pack.f k (x.map (· - lo)) t).bind fun b => some (b.1, (b.2 == 0))) Q) (d : Nat) :
    ∀ i : Nat, i + d = x.length → EvP (fun k => segment_packed_encode.l0 k lo ((x.take i).map (· - lo) ++ x.drop i) (x.length : Int) (i : Int)) Q := by
  induction d with
  | zero =>
    intro i hi
    refine EvP.step (fun k => by rw [segment_packed_encode.l0]) (EvP.neg (by omega) ?_)
    rw [List.drop_eq_nil_of_le (by omega), List.take_of_length_le (by omega), List.append_nil]
    exact hQ
  | succ d ih =>
    intro i hi
    have hlt : i < x.length := by omega
    have hm := hx x[i] (List.getElem_mem hlt)
    have htl : ((x.take i).map (· - lo)).length = i := by rw [List.length_map, List.length_take]; omega
    have hyl : ((x.take i).map (· - lo) ++ x.drop i).length = x.length := by rw [List.length_append, htl, List.length_drop]; omega
    refine EvP.step (fun k => by rw [segment_packed_encode.l0]) (EvP.pos (by omega) (EvP.pos (by omega) (EvP.pos (by omega) ?_)))
    have er : rd ((x.take i).map (· - lo) ++ x.drop i) (i : Int) = x[i] := by
      rw [rd_nat _ i (by omega), List.getElem_append_right (by omega), List.getElem_drop]
      congr 1
      omega
    have es : ((x.take i).map (· - lo) ++ x.drop i).set i (x[i] - lo) = (x.take (i + 1)).map (· - lo) ++ x.drop (i + 1) := by
      rw [List.set_append_right _ _ (by omega), htl, Nat.sub_self, List.drop_eq_getElem_cons hlt, List.set_cons_zero, List.take_succ_eq_append_getElem hlt, List.map_append, List.append_assoc]
      rfl
    rw [er, Int.toNat_natCast, w64 (n := x[i] - lo) (by omega) (by omega), es, w_succ (by omega)]
    exact ih (i + 1) (by omega)
theorem packed_is {x : List Int} (h : Sgm x) : EvP (fun k => segment_packed_encode.f k x) (fun r => r.2 = true ∧ ∃ w : Nat, w ≤ 24 ∧ Fit w (offs x) ∧ Low w (offs x) ∧ Enc r.1 w (offs x)) := by
  have hr := sgm_range h
  obtain ⟨h0, h1, h2⟩ := h
  have a := minL_le h1
  unfold segment_packed_encode.f
  refine EvP.bind1 (min_is h1 (by omega)) ?_
  unfold slices_Clone_int_int.f
  rw [if_pos (by omega)]
  refine EvP.bind1 (Ev.now _) ?_
  have hl : (offs x).length = x.length := by unfold offs; rw [List.length_map]
  have hs : Sml (offs x) := by
    intro y hy
    obtain ⟨z, hz, rfl⟩ := List.mem_map.1 hy
    have := a.1 z hz
    have := h0 z hz
    omega
  refine packed_l0 x (minL x) (by omega) (fun y hy => by have := a.1 y hy; have := h0 y hy; omega) _ ?_ x.length 0 (by omega)
  refine EvP.bind (width_is (xs := offs x) (by omega) hs) (fun w hw => ?_)
  obtain ⟨w, rfl, hw1, hw2, hw3⟩ := hw
  exact EvP.bind (pack_is (w := w) (xs := offs x) (by omega) (by omega) hw2) (fun r hr => EvP.ret ⟨by simp [hr.1], w, hw1, hw2, hw3, hr.2⟩)
def dif (x : List Int) (j : Nat) : Int := x.getD (j + 1) 0 - x.getD j 0
def difs (x : List Int) : List Int := (List.range (x.length - 1)).map fun j => (foldN (dif x j) : Int)
theorem zig {y : Int} (h1 : -5000 ≤ y) (h2 : y ≤ 5000) : mx (wrap64 (2 * wrap64 y)) (wrap64 (wrap64 ((-2) * wrap64 y) - 1)) = (foldN y : Int) := by
  rw [w64 (n := y) (by omega) (by omega), w64 (n := 2 * y) (by omega) (by omega), w64 (n := (-2) * y) (by omega) (by omega), w64 (n := (-2) * y - 1) (by omega) (by omega)]
  unfold mx foldN
  split <;> split <;> omega
theorem dif_range {x : List Int} (h : Smp x) (j : Nat) (hj : j + 1 < x.length) : -2000 ≤ dif x j ∧ dif x j ≤ 2000 := by
  unfold dif
  rw [getD_at x (j + 1) hj, getD_at x j (by omega)]
  have a := h _ (List.getElem_mem hj)
  have b := h _ (List.getElem_mem (show j < x.length by omega))
  omega
theorem delta_l0 (x : List Int) (hs : Smp x) (hn : x.length ≤ 1000000) (Q : List Int × Bool → Prop)
    (hQ : EvP (fun k => (codec_Width.f k (difs x)).bind fun t => (codec_Pack.f k (difs x) t).bind fun b => if 0 < (x.length : Int) then ((codec_PutInt.f k ([] : List Int) (rd x 0)).bind fun p => if p.length < 140737488355328 then ((some (p ++ [t % 256] : List Int)).bind fun y => if y.length + b.1.length < 140737488355328 then some (y ++ b.1, (b.2 == 0)) else none) else none) else none) Q) (d : Nat) :
    ∀ i : Nat, 1 ≤ i → i + d = x.length → EvP (fun k => segment_delta_encode.l0 k x ((List.range (i - 1)).map fun j => (foldN (dif x j) : Int)) (i : Int)) Q := by
  induction d with
  | zero =>
    intro i h1 hi
    refine EvP.step (fun k => by rw [segment_delta_encode.l0]) (EvP.neg (by omega) ?_)
    rw [show i - 1 = x.length - 1 by omega]
    exact hQ
  | succ d ih =>
    intro i h1 hi
    have hlt : i < x.length := by omega
    have ei : wrap64 ((i : Int) - 1) = ((i - 1 : Nat) : Int) := by rw [w64 (by omega) (by omega)]; omega
    have hd := dif_range hs (i - 1) (by omega)
    refine EvP.step (fun k => by rw [segment_delta_encode.l0]) (EvP.pos (by omega) (EvP.pos (by omega) ?_))
    rw [ei]
    refine EvP.pos (by omega) (EvP.pos (by omega) (EvP.pos (by simp; omega) ?_))
    have ed : rd x (i : Int) - rd x ((i - 1 : Nat) : Int) = dif x (i - 1) := by
      rw [rd_getD, rd_getD]
      unfold dif
      rw [show i - 1 + 1 = i by omega]
    rw [ed, zig (by omega) (by omega), w_succ (by omega)]
    have e2 : ((List.range (i - 1)).map fun j => (foldN (dif x j) : Int)) ++ [(foldN (dif x (i - 1)) : Int)] = (List.range (i + 1 - 1)).map fun j => (foldN (dif x j) : Int) := by
      rw [show i + 1 - 1 = i - 1 + 1 by omega, List.range_succ, List.map_append]
      rfl
    rw [e2]
    exact ih (i + 1) (by omega) (by omega)
/-- The bytes of the differences of neighbours. -/
def Dlt (x q : List Int) : Prop := ∃ (w : Nat) (b : List Int), w ≤ 24 ∧ Fit w (difs x) ∧ Low w (difs x) ∧ Enc b w (difs x) ∧ q = encN (foldN (rd x 0)) ++ [(w : Int)] ++ b
def Pkd (x p : List Int) : Prop := ∃ w : Nat, w ≤ 24 ∧ Fit w (offs x) ∧ Low w (offs x) ∧ Enc p w (offs x)
theorem difs_sml {x : List Int} (h : Smp x) : Sml (difs x) := by
  intro y hy
  obtain ⟨j, hj, rfl⟩ := List.mem_map.1 hy
  have := dif_range h j (by have := List.mem_range.1 hj; omega)
  unfold foldN
  split <;> omega
theorem difs_len (x : List Int) : (difs x).length = x.length - 1 := by unfold difs; rw [List.length_map, List.length_range]
theorem delta_is {x : List Int} (h : Sgm x) : EvP (fun k => segment_delta_encode.f k x) (fun r => r.2 = true ∧ Dlt x r.1) := by
  obtain ⟨h0, h1, h2⟩ := h
  have hdl := difs_len x
  unfold segment_delta_encode.f
  refine delta_l0 x h0 (by omega) _ ?_ (x.length - 1) 1 (by omega) (by omega)
  refine EvP.bind (width_is (xs := difs x) (by omega) (difs_sml h0)) (fun w hw => ?_)
  obtain ⟨w, rfl, hw1, hw2, hw3⟩ := hw
  refine EvP.bind (pack_is (w := w) (xs := difs x) (by omega) (by omega) hw2) (fun r hr => ?_)
  have hb : r.1.length ≤ 10000 := by
    rw [hr.2.2.1, hdl]
    have : w * (x.length - 1) ≤ 24 * 64 := Nat.mul_le_mul hw1 (by omega)
    omega
  have hx0 := h0.at 0 (by omega) (by omega)
  have h10 := encN_ten (foldN_lt (n := rd x 0) (by omega) (by omega))
  refine EvP.pos (by omega) (EvP.bind1 (put_is (n := rd x 0) (by omega) (by omega) [] (by simp)) (EvP.pos (by simp; omega) (EvP.bind1 (Ev.now _) (EvP.pos (by simp; omega) (EvP.ret ⟨by simp [hr.1], w, r.1, hw1, hw2, hw3, hr.2, ?_⟩)))))
  show [] ++ encN (foldN (rd x 0)) ++ [(w : Int) % 256] ++ r.1 = _
  rw [List.nil_append, show (w : Int) % 256 = (w : Int) by omega]
/-! ### a segment -/
def body (x : List Int) (kd : Int) (data : List Int) : List Int := ([kd] ++ encN (foldN (x.length : Int)) ++ encN (foldN (minL x)) ++ encN (foldN (maxL x - minL x)) ++ encN (foldN (totL x))) ++ data
/-- The data of the shortest form, the first one of equal length. -/
def Dat (x : List Int) (kd : Int) (data : List Int) : Prop :=
  (minL x = maxL x ∧ kd = 0 ∧ data = []) ∨ (minL x ≠ maxL x ∧ ∃ p q, Pkd x p ∧ Dlt x q ∧ ((q.length < p.length ∧ kd = 2 ∧ data = q) ∨ (¬ q.length < p.length ∧ kd = 1 ∧ data = p)))
theorem pkd_len {x p : List Int} (h : Sgm x) (hp : Pkd x p) : byt p ∧ p.length ≤ 10000 := by
  obtain ⟨w, h1, _, _, h4, h5, _⟩ := hp
  refine ⟨h4, ?_⟩
  have hl : (offs x).length = x.length := by unfold offs; rw [List.length_map]
  have : w * x.length ≤ 24 * 64 := Nat.mul_le_mul h1 h.2.2
  rw [h5, hl]
  omega
theorem dlt_len {x q : List Int} (h : Sgm x) (hq : Dlt x q) : byt q ∧ q.length ≤ 10000 := by
  obtain ⟨w, b, h1, _, _, ⟨h4, h5, _⟩, rfl⟩ := hq
  have hx0 := h.1.at 0 (by omega) (by have := h.2.1; omega)
  have h10 := encN_ten (foldN_lt (n := rd x 0) (by omega) (by omega))
  have : w * (x.length - 1) ≤ 24 * 64 := Nat.mul_le_mul h1 (by have := h.2.2; omega)
  rw [difs_len] at h5
  refine ⟨fun y hy => ?_, by simp; omega⟩
  rcases List.mem_append.1 hy with hy | hy
  · rcases List.mem_append.1 hy with hy | hy
    · exact encN_bts _ _ (Nat.lt_succ_self _) y hy
    · rw [List.mem_singleton.1 hy]
      omega
  · exact h4 y hy
theorem dat_len {x : List Int} (h : Sgm x) {kd : Int} {data : List Int} (hd : Dat x kd data) : byt data ∧ data.length ≤ 10000 ∧ 0 ≤ kd ∧ kd ≤ 2 := by
  rcases hd with ⟨_, rfl, rfl⟩ | ⟨_, p, q, hp, hq, ⟨_, rfl, rfl⟩ | ⟨_, rfl, rfl⟩⟩
  · exact ⟨(fun y hy => by cases hy), by simp, by omega, by omega⟩
  · exact ⟨(dlt_len h hq).1, (dlt_len h hq).2, by omega, by omega⟩
  · exact ⟨(pkd_len h hp).1, (pkd_len h hp).2, by omega, by omega⟩
theorem body_bts {x : List Int} (h : Sgm x) {kd : Int} {data : List Int} (hd : Dat x kd data) : bts (body x kd data) := by
  have := dat_len h hd
  have e : ∀ u, bts (encN u) := fun u => encN_bts _ _ (Nat.lt_succ_self _)
  intro y hy
  unfold body at hy
  simp only [List.mem_append, List.mem_singleton] at hy
  rcases hy with ((((rfl | hy) | hy) | hy) | hy) | hy
  · omega
  · exact e _ y hy
  · exact e _ y hy
  · exact e _ y hy
  · exact e _ y hy
  · exact this.1 y hy
theorem body_len {x : List Int} (h : Sgm x) {kd : Int} {data : List Int} (hd : Dat x kd data) : 5 ≤ (body x kd data).length ∧ (body x kd data).length ≤ 20000 := by
  have hdl := dat_len h hd
  have hr := sgm_range h
  have ht := totL_range x
  have a1 := encN_pos (foldN (x.length : Int))
  have a2 := encN_pos (foldN (minL x))
  have a3 := encN_pos (foldN (maxL x - minL x))
  have a4 := encN_pos (foldN (totL x))
  have b1 := encN_ten (foldN_lt (n := (x.length : Int)) (by omega) (by have := h.2.2; omega))
  have b2 := encN_ten (foldN_lt (n := minL x) (by omega) (by omega))
  have b3 := encN_ten (foldN_lt (n := maxL x - minL x) (by omega) (by omega))
  have b4 := encN_ten (foldN_lt (n := totL x) ht.1 ht.2)
  unfold body
  simp only [List.length_append, List.length_singleton]
  omega
theorem rest_is {x : List Int} (h : Sgm x) {kd : Int} {data : List Int} (hd : Dat x kd data) : Ev (fun k => segment_Encode.rest k x (some (kd, data))) (sealB (body x kd data), 0) := by
  have hdl := dat_len h hd
  have hbl := body_len h hd
  have hr := sgm_range h
  have ht := totL_range x
  obtain ⟨h0, h1, h2⟩ := h
  have b1 := encN_ten (foldN_lt (n := (x.length : Int)) (by omega) (by omega))
  have b2 := encN_ten (foldN_lt (n := minL x) (by omega) (by omega))
  have b3 := encN_ten (foldN_lt (n := maxL x - minL x) (by omega) (by omega))
  have b4 := encN_ten (foldN_lt (n := totL x) ht.1 ht.2)
  show Ev (fun k => (slices_Min_int_int.f k x).bind fun lo => (slices_Max_int_int.f k x).bind fun hi => (segment_total.f k x).bind fun t => (segment_Encode.puts k [(x.length : Int), lo, wrap64 (hi - lo), t] [kd]).bind fun o => segment_Encode.seal k o data) _
  refine Ev.bind (min_is h1 (by omega)) (Ev.bind (max_is h1 (by omega)) (Ev.bind (tot_is (by omega)) ?_))
  rw [w64 (n := maxL x - minL x) (by omega) (by omega)]
  refine Ev.bind (a := [kd] ++ encN (foldN (x.length : Int)) ++ encN (foldN (minL x)) ++ encN (foldN (maxL x - minL x)) ++ encN (foldN (totL x))) ?_ ?_
  · refine Ev.bind (put_is (n := (x.length : Int)) (by omega) (by omega) [kd] (by simp)) ?_
    refine Ev.bind (put_is (n := minL x) (by omega) (by omega) _ (by simp; omega)) ?_
    refine Ev.bind (put_is (n := maxL x - minL x) (by omega) (by omega) _ (by simp; omega)) ?_
    refine Ev.bind (put_is (n := totL x) ht.1 ht.2 _ (by simp; omega)) (Ev.now _)
  · unfold segment_Encode.seal
    refine Ev.pos (by simp; omega) (Ev.bind (Ev.now _) (Ev.now _))
theorem Encode_is {x : List Int} (h : Sgm x) : EvP (fun k => segment_Encode.f k x) (fun r => ∃ kd data, Dat x kd data ∧ r = (sealB (body x kd data), 0)) := by
  unfold segment_Encode.f
  refine EvP.bind1 (proper_is h) (EvP.pos rfl (EvP.bind1 (constant_is h) (EvP.bind (packed_is h) (fun p hp => EvP.bind (delta_is h) (fun q hq => ?_)))))
  obtain ⟨p, po⟩ := p
  obtain ⟨q, qo⟩ := q
  obtain ⟨rfl, hp⟩ := hp
  obtain ⟨rfl, hq⟩ := hq
  by_cases he : minL x = maxL x
  · have e : segment_Encode.pick (segment_Encode.pick (segment_Encode.pick none 0 [] (minL x == maxL x)) 1 p true) 2 q true = some (0, []) := by
      simp [segment_Encode.pick, he]
    have hd : Dat x 0 [] := .inl ⟨he, rfl, rfl⟩
    dsimp only
    rw [e]
    exact EvP.mono (Ev.evp (rest_is h hd)) fun r hr => ⟨0, [], hd, hr⟩
  · have e0 : segment_Encode.pick none 0 [] (minL x == maxL x) = none := by simp [segment_Encode.pick, he]
    by_cases hl : q.length < p.length
    · have e : segment_Encode.pick (segment_Encode.pick none 1 p true) 2 q true = some (2, q) := by simp [segment_Encode.pick, hl]
      have hd : Dat x 2 q := .inr ⟨he, p, q, hp, hq, .inl ⟨hl, rfl, rfl⟩⟩
      dsimp only
      rw [e0, e]
      exact EvP.mono (Ev.evp (rest_is h hd)) fun r hr => ⟨2, q, hd, hr⟩
    · have e : segment_Encode.pick (segment_Encode.pick none 1 p true) 2 q true = some (1, p) := by simp [segment_Encode.pick, hl]
      have hd : Dat x 1 p := .inr ⟨he, p, q, hp, hq, .inr ⟨hl, rfl, rfl⟩⟩
      dsimp only
      rw [e0, e]
      exact EvP.mono (Ev.evp (rest_is h hd)) fun r hr => ⟨1, p, hd, hr⟩
/-! ### what Measure tells -/
theorem go_is : ∀ (l : List Int) (a b s : Int), XMea.go l a b s = (l.foldl mn a, l.foldl mx b, l.foldl addW s)
  | [], _, _, _ => rfl
  | x :: t, a, b, s => go_is t _ _ _
theorem measure_is {x : List Int} (h1 : 1 ≤ x.length) (h2 : x.length ≤ 64) : shapesearchref10_Measure.f x = some (0, (x.length : Int), minL x, maxL x, totL x) := by
  unfold shapesearchref10_Measure.f
  rw [if_pos (by omega), go_is]
  have e := hd_cons h1
  have e1 : x.foldl mn (rd x 0) = minL x := by
    conv => lhs; rw [e]
    rw [List.foldl_cons]
    have : mn (rd (rd x 0 :: x.drop 1) 0) (rd x 0) = rd x 0 := by
      rw [← e]
      unfold mn
      split <;> rfl
    rw [this]
    rfl
  have e2 : x.foldl mx (rd x 0) = maxL x := by
    conv => lhs; rw [e]
    rw [List.foldl_cons]
    have : mx (rd (rd x 0 :: x.drop 1) 0) (rd x 0) = rd x 0 := by
      rw [← e]
      unfold mx
      split <;> rfl
    rw [this]
    rfl
  rw [e1, e2]
  rfl
theorem made_is (s : List Int) (a : Int) (h : Src s a) : EvP (fun k => shapesearchlaw10_made.f k s a) (fun r => Src s r.2 ∧ Sgm r.1) := by
  unfold shapesearchlaw10_made.f
  refine EvP.bind (keep_Pick s a [4, 12, 64] h (by simp) (by simp)) (fun p hp => ?_)
  have hp2 : 4 ≤ p.1 ∧ p.1 ≤ 64 := by
    have := hp.2
    simp only [List.mem_cons, List.mem_nil_iff, or_false] at this
    omega
  refine EvP.bind (keep_Range s p.2 1 p.1 hp.1 (by omega) (by omega) (by omega)) (fun n hn => ?_)
  exact EvP.bind (keep_List s n.2 n.1 hn.1 (by omega) (by omega)) (fun x hx => EvP.ret ⟨hx.1, hx.2.1, by have := hx.2.2; dsimp only; omega, by have := hx.2.2; dsimp only; omega⟩)
theorem awake_is : Ev (fun k => shapesearchlaw10_awake.f k) true := Ev.of shapesearchlaw10_awake.mono (k := 40) (by decide +kernel)
/-! ### what the head reads back -/
theorem rd_step {b pre post : List Int} {v : Int} (e : b = pre ++ (encN (foldN v) ++ post)) (hp : pre.length ≤ 900) (h1 : -9223372036854775808 ≤ v) (h2 : v ≤ 9223372036854775807) {n : Nat} {acc : List Int} {R : Option (List Int × Int)}
    (k : Ev (fun k => segment_head.rd4 b k n ((pre ++ encN (foldN v)).length : Int) (acc ++ [v])) R) : Ev (fun k => segment_head.rd4 b k (n + 1) (pre.length : Int) acc) R := by
  have h := int_is pre post hp h1 h2
  rw [← e] at h
  have e2 : (fun k => segment_head.rd4 b k (n + 1) (pre.length : Int) acc) = fun k => (codec_Int.f k b (pre.length : Int)).bind fun r => if r.2.2 = 0 then segment_head.rd4 b k n r.2.1 (acc ++ [r.1]) else some none := rfl
  rw [e2]
  rw [List.length_append] at k
  exact Ev.bind h (Ev.pos rfl k)
theorem head_is {x : List Int} (h : Sgm x) {kd : Int} (hk0 : 0 ≤ kd) (hk2 : kd ≤ 2) (data : List Int) :
    ∃ P : Nat, (body x kd data).drop P = data ∧ P ≤ (body x kd data).length ∧ Ev (fun k => segment_head.f k (body x kd data)) (kd, (x.length : Int), minL x, maxL x, totL x, (P : Int), true) := by
  have hr := sgm_range h
  have ht := totL_range x
  obtain ⟨h0, h1, h2⟩ := h
  have b1 := encN_ten (foldN_lt (n := (x.length : Int)) (by omega) (by omega))
  have b2 := encN_ten (foldN_lt (n := minL x) (by omega) (by omega))
  have b3 := encN_ten (foldN_lt (n := maxL x - minL x) (by omega) (by omega))
  refine ⟨([kd] ++ encN (foldN (x.length : Int)) ++ encN (foldN (minL x)) ++ encN (foldN (maxL x - minL x)) ++ encN (foldN (totL x))).length, List.drop_left, by unfold body; rw [List.length_append (bs := data)]; omega, ?_⟩
  have hlen : 0 < (body x kd data).length := by unfold body; simp
  have er : rd (body x kd data) 0 = kd := by unfold body; rfl
  unfold segment_head.f
  refine Ev.bind (a := some ([(x.length : Int), minL x, maxL x - minL x, totL x], (([kd] ++ encN (foldN (x.length : Int)) ++ encN (foldN (minL x)) ++ encN (foldN (maxL x - minL x)) ++ encN (foldN (totL x))).length : Int))) ?_ ?_
  · refine rd_step (pre := [kd]) (v := (x.length : Int)) (post := encN (foldN (minL x)) ++ (encN (foldN (maxL x - minL x)) ++ (encN (foldN (totL x)) ++ data))) (n := 3) (acc := []) (by unfold body; simp only [List.append_assoc]) (by simp) (by omega) (by omega) ?_
    refine rd_step (v := minL x) (post := encN (foldN (maxL x - minL x)) ++ (encN (foldN (totL x)) ++ data)) (n := 2) (by unfold body; simp only [List.append_assoc]) (by simp; omega) (by omega) (by omega) ?_
    refine rd_step (v := maxL x - minL x) (post := encN (foldN (totL x)) ++ data) (n := 1) (by unfold body; simp only [List.append_assoc]) (by simp; omega) (by omega) (by omega) ?_
    exact rd_step (v := totL x) (post := data) (n := 0) (by unfold body; simp only [List.append_assoc]) (by simp; omega) ht.1 ht.2 (Ev.now _)
  · have e : segment_head.fin (body x kd data) (some ([(x.length : Int), minL x, maxL x - minL x, totL x], (([kd] ++ encN (foldN (x.length : Int)) ++ encN (foldN (minL x)) ++ encN (foldN (maxL x - minL x)) ++ encN (foldN (totL x))).length : Int))) = some (kd, (x.length : Int), minL x, maxL x, totL x, (([kd] ++ encN (foldN (x.length : Int)) ++ encN (foldN (minL x)) ++ encN (foldN (maxL x - minL x)) ++ encN (foldN (totL x))).length : Int), true) := by
      unfold segment_head.fin
      dsimp only
      rw [if_pos hlen, er, w64 (n := kd) (by omega) (by omega)]
      have r0 : rd [(x.length : Int), minL x, maxL x - minL x, totL x] 0 = (x.length : Int) := rfl
      have r1 : rd [(x.length : Int), minL x, maxL x - minL x, totL x] 1 = minL x := rfl
      have r2 : rd [(x.length : Int), minL x, maxL x - minL x, totL x] 2 = maxL x - minL x := rfl
      have r3 : rd [(x.length : Int), minL x, maxL x - minL x, totL x] 3 = totL x := rfl
      rw [r0, r1, r2, r3, if_neg (by unfold segment_head.bad; omega), w64 (n := minL x + (maxL x - minL x)) (by omega) (by omega), show minL x + (maxL x - minL x) = maxL x by omega]
    rw [e]
    exact Ev.now _
/-! ### the data read back -/
theorem unpk_l0 (x : List Int) (lo : Int) (hn : x.length ≤ 1000000) (hx : ∀ y ∈ x, -9000 ≤ y ∧ y ≤ 9000) (a0 a1 a3 a4 : Int) (d : Nat) :
    ∀ i : Nat, i + d = x.length → Ev (fun k => segment_packed_decode.l0 k (x.take i ++ (x.drop i).map (· - lo)) (x.length : Int) (i : Int) a0 a1 lo a3 a4) (x, true) := by
  induction d with
  | zero =>
    intro i hi
    rw [List.drop_eq_nil_of_le (by omega), List.take_of_length_le (by omega), List.map_nil, List.append_nil]
    exact Ev.step (fun k => by rw [segment_packed_decode.l0]) (Ev.neg (by omega) (Ev.now _))
  | succ d ih =>
    intro i hi
    have hlt : i < x.length := by omega
    have hm := hx x[i] (List.getElem_mem hlt)
    have htl : (x.take i).length = i := by rw [List.length_take]; omega
    have hyl : (x.take i ++ (x.drop i).map (· - lo)).length = x.length := by rw [List.length_append, htl, List.length_map, List.length_drop]; omega
    refine Ev.step (fun k => by rw [segment_packed_decode.l0]) (Ev.pos (by omega) (Ev.pos (by omega) (Ev.pos (by omega) ?_)))
    have er : rd (x.take i ++ (x.drop i).map (· - lo)) (i : Int) = x[i] - lo := by
      rw [rd_nat _ i (by omega), List.getElem_append_right (by omega), List.getElem_map, List.getElem_drop]
      congr 2
      omega
    have es : (x.take i ++ (x.drop i).map (· - lo)).set i x[i] = x.take (i + 1) ++ (x.drop (i + 1)).map (· - lo) := by
      rw [List.set_append_right _ _ (by omega), htl, Nat.sub_self, List.drop_eq_getElem_cons hlt, List.map_cons, List.set_cons_zero, List.take_succ_eq_append_getElem hlt, List.append_assoc]
      rfl
    rw [er, Int.toNat_natCast, show x[i] - lo + lo = x[i] by omega, w64 (n := x[i]) (by omega) (by omega), es, w_succ (by omega)]
    exact ih (i + 1) (by omega)
theorem sml_one {v : Int} (h0 : 0 ≤ v) (h1 : v ≤ 2000) : Sml [v] := fun y hy => by rw [List.mem_singleton.1 hy]; omega
theorem unpk_is {x p : List Int} (h : Sgm x) (hp : Pkd x p) (a0 a4 : Int) : Ev (fun k => segment_packed_decode.f k p a0 (x.length : Int) (minL x) (maxL x) a4) (x, true) := by
  have hr := sgm_range h
  obtain ⟨w, h1, h2, h3, h4⟩ := hp
  have hl : (offs x).length = x.length := by unfold offs; rw [List.length_map]
  unfold segment_packed_decode.f
  rw [w64 (n := maxL x - minL x) (by omega) (by omega)]
  have hW : Ev (fun k => codec_Width.f k [maxL x - minL x]) (w : Int) := by
    obtain ⟨r, hr1, W, rfl, hW1, hW2, hW3⟩ := width_is (xs := [maxL x - minL x]) (by simp) (sml_one (by omega) (by omega))
    have f1 := (hW2 _ (List.mem_singleton.2 rfl)).2
    have f2 := (h2 (maxL x - minL x) (List.mem_map.2 ⟨_, (le_maxL h.2.1).2, rfl⟩)).2
    have hWw : W ≤ w := by
      rcases hW3 with h | ⟨y, hy, hyl⟩
      · omega
      · rw [List.mem_singleton.1 hy] at hyl
        by_cases hc : W ≤ w
        · exact hc
        · exfalso
          have : 2 ^ w ≤ 2 ^ (W - 1) := Nat.pow_le_pow_right (by omega) (by omega)
          have e : ((2 : Int) ^ w) = ((2 ^ w : Nat) : Int) := by push_cast; rfl
          omega
    have hwW : w ≤ W := by
      rcases h3 with h3 | ⟨y, hy, hyl⟩
      · omega
      · obtain ⟨z, hz, rfl⟩ := List.mem_map.1 hy
        have := (le_maxL h.2.1).1 z hz
        by_cases hc : w ≤ W
        · exact hc
        · exfalso
          have : 2 ^ W ≤ 2 ^ (w - 1) := Nat.pow_le_pow_right (by omega) (by omega)
          have e : ((2 : Int) ^ W) = ((2 ^ W : Nat) : Int) := by push_cast; rfl
          omega
    have : W = w := by omega
    rw [this] at hr1
    exact hr1
  have hu := unpack_is (b := p) (w := w) (xs := offs x) (by omega) (by have := h.2.2; omega) h4 h2
  rw [hl] at hu
  refine Ev.bind hW ?_
  rw [hu]
  refine Ev.bind (Ev.now _) (Ev.pos rfl ?_)
  dsimp only
  rw [hl]
  have hs := unpk_l0 x (minL x) (by have := h.2.2; omega) (fun y hy => by have := h.1 y hy; omega) a0 (x.length : Int) (maxL x) a4 x.length 0 (by omega)
  exact hs
theorem unzig {y : Int} (h1 : -5000 ≤ y) (h2 : y ≤ 5000) : Go.bits .xor .i64 ((foldN y : Int) / 2) (wrap64 (-(Go.bits .and .i64 (foldN y : Int) 1))) = y := by
  have hlt : foldN y < 9223372036854775808 := by unfold foldN; split <;> omega
  rw [and_i64 hlt]
  by_cases h : 0 ≤ y
  · have e : foldN y = (2 * y).toNat := if_pos h
    have e1 : (foldN y : Int) / 2 = (y.toNat : Int) := by omega
    have e2 : foldN y % 2 = 0 := by omega
    have e3 : wrap64 (-((0 : Nat) : Int)) = 0 := by unfold wrap64; omega
    rw [e1, e2, e3, xor_i64_zero (a := y.toNat) (by omega)]
    omega
  · have e : foldN y = (-2 * y - 1).toNat := if_neg h
    have e1 : (foldN y : Int) / 2 = ((-y - 1).toNat : Int) := by omega
    have e2 : foldN y % 2 = 1 := by omega
    have e3 : wrap64 (-((1 : Nat) : Int)) = -1 := by unfold wrap64; omega
    rw [e1, e2, e3, xor_i64_ones (a := (-y - 1).toNat) (by omega)]
    omega
theorem undlt_l0 {x : List Int} (h : Sgm x) (d : Nat) : ∀ i : Nat, i + 1 + d = x.length → Ev (fun k => segment_delta_decode.l0 k (x.take (i + 1)) (difs x) ((difs x).length : Int) (i : Int)) (x, true) := by
  have hdl := difs_len x
  have hx2 := h.2.2
  induction d with
  | zero =>
    intro i hi
    rw [List.take_of_length_le (by omega)]
    exact Ev.step (fun k => by rw [segment_delta_decode.l0]) (Ev.neg (by omega) (Ev.now _))
  | succ d ih =>
    intro i hi
    have hlt : i + 1 < x.length := by omega
    have htl : (x.take (i + 1)).length = i + 1 := by rw [List.length_take]; omega
    have hd := dif_range h.1 i hlt
    have ew : wrap64 (((x.take (i + 1)).length : Int) - 1) = (i : Int) := by rw [htl, w64 (by omega) (by omega)]; omega
    refine Ev.step (fun k => by rw [segment_delta_decode.l0]) (Ev.pos (by omega) (Ev.pos (by omega) (Ev.pos (by omega) ?_)))
    rw [ew]
    refine Ev.pos (by omega) (Ev.pos (by omega) (Ev.pos (by omega) ?_))
    have e1 : rd (x.take (i + 1)) (i : Int) = x[i] := by
      rw [rd_nat _ i (by omega), List.getElem_take]
    have e2 : rd (difs x) (i : Int) = (foldN (dif x i) : Int) := by
      rw [rd_nat _ i (by omega)]
      unfold difs
      rw [List.getElem_map, List.getElem_range]
    have e3 : x[i] + dif x i = x[i + 1] := by
      unfold dif
      rw [getD_at x (i + 1) hlt, getD_at x i (by omega)]
      omega
    have hm := h.1 _ (List.getElem_mem hlt)
    rw [e1, e2, unzig (by omega) (by omega), e3, w64 (n := x[i + 1]) (by omega) (by omega), ← List.take_succ_eq_append_getElem hlt, w_succ (by omega)]
    exact ih (i + 1) (by omega)
theorem undlt_is {x q : List Int} (h : Sgm x) (hq : Dlt x q) (a0 a2 a3 a4 : Int) : Ev (fun k => segment_delta_decode.f k q a0 (x.length : Int) a2 a3 a4) (x, true) := by
  obtain ⟨w, b, h1, h2, _, h4, rfl⟩ := hq
  have hdl := difs_len x
  have hx1 := h.2.1
  have hx2 := h.2.2
  have hx0 := h.1.at 0 (by omega) (by omega)
  have h10 := encN_ten (foldN_lt (n := rd x 0) (by omega) (by omega))
  have hi := int_is [] ([(w : Int)] ++ b) (by simp) (n := rd x 0) (by omega) (by omega)
  rw [List.nil_append, ← List.append_assoc, List.length_nil, Nat.zero_add] at hi
  have hu := unpack_is (b := b) (w := w) (xs := difs x) (by omega) (by omega) h4 h2
  have ht : x.take 1 = [rd x 0] := by
    have := hd_cons hx1
    conv => lhs; rw [this]
    rfl
  have hl0 := undlt_l0 h (x.length - 1) 0 (by omega)
  rw [ht] at hl0
  have hlen : (encN (foldN (rd x 0)) ++ [(w : Int)] ++ b).length = (encN (foldN (rd x 0))).length + 1 + b.length := by simp; omega
  have e1 : rd (encN (foldN (rd x 0)) ++ [(w : Int)] ++ b) ((encN (foldN (rd x 0))).length : Int) = (w : Int) := by
    rw [List.append_assoc]
    exact rd_mid _ _ _
  have e2 : (encN (foldN (rd x 0)) ++ [(w : Int)] ++ b).drop ((encN (foldN (rd x 0))).length + 1) = b := by
    have : (encN (foldN (rd x 0))).length + 1 = (encN (foldN (rd x 0)) ++ [(w : Int)]).length := by simp
    rw [this]
    exact List.drop_left
  unfold segment_delta_decode.f
  refine Ev.bind hi (Ev.pos rfl (Ev.neg (by rw [hlen]; dsimp only; omega) (Ev.neg (by dsimp only; omega) ?_)))
  dsimp only
  rw [decide_eq_false (by omega)]
  refine Ev.step (fun k => by rw [segment_delta_decode.j0]) (Ev.neg (by decide) ?_)
  rw [w_succ (by omega)]
  refine Ev.pos (by omega) (Ev.pos (by omega) (Ev.pos (by omega) (Ev.pos (by omega) ?_)))
  rw [Int.toNat_natCast, e1, e2, w64 (n := (w : Int)) (by omega) (by omega), show wrap64 ((x.length : Int) - 1) = ((difs x).length : Int) by rw [w64 (by omega) (by omega)]; omega, hu]
  refine Ev.bind (Ev.now _) (Ev.pos rfl ?_)
  exact hl0
theorem dec_is {x : List Int} (h : Sgm x) {kd : Int} {data : List Int} (hd : Dat x kd data) : Ev (fun k => segment_open.dec k kd (x.length : Int) (minL x) (maxL x) (totL x) data) (x, true) := by
  unfold segment_open.dec
  rcases hd with ⟨he, rfl, rfl⟩ | ⟨_, p, q, hp, hq, ⟨_, rfl, rfl⟩ | ⟨_, rfl, rfl⟩⟩
  · refine Ev.pos rfl ?_
    have hx2 := h.2.2
    have e : slices_Repeat_int_int.f [minL x] (x.length : Int) = some x := by
      unfold slices_Repeat_int_int.f
      rw [if_pos (show [minL x].length = 1 from rfl), if_pos (by omega), Int.toNat_natCast]
      congr 1
      refine (List.eq_replicate_iff.2 ⟨rfl, fun y hy => ?_⟩).symm
      have a := (minL_le h.2.1).1 y hy
      have b := (le_maxL h.2.1).1 y hy
      show y = minL x
      omega
    unfold segment_constant_decode.f
    rw [e]
    exact Ev.now _
  · exact Ev.neg (by decide) (Ev.neg (by decide) (Ev.pos rfl (undlt_is h hq _ _ _ _)))
  · exact Ev.neg (by decide) (Ev.pos rfl (unpk_is h hp _ _))
theorem open_is {x : List Int} (h : Sgm x) {kd : Int} {data : List Int} (hd : Dat x kd data) (he : Ev (fun k => segment_Encode.f k x) (sealB (body x kd data), 0)) :
    Ev (fun k => segment_open.f k (sealB (body x kd data))) (kd, (x.length : Int), minL x, maxL x, totL x, x, 0) := by
  have hb := body_len h hd
  have hdl := dat_len h hd
  have hsl := seal_len (body x kd data)
  have et : (sealB (body x kd data)).length - 4 = (body x kd data).length := by omega
  have e1 : (sealB (body x kd data)).take (body x kd data).length = body x kd data := by unfold sealB; exact List.take_left
  have e2 : (sealB (body x kd data)).drop (body x kd data).length = [(X.crc (body x kd data)) % 256, (X.crc (body x kd data) / 256) % 256, (X.crc (body x kd data) / 65536) % 256, (X.crc (body x kd data) / 16777216) % 256] := by unfold sealB; exact List.drop_left
  obtain ⟨P, hP1, hP2, hP3⟩ := head_is h hdl.2.2.1 hdl.2.2.2 data
  unfold segment_open.f
  refine Ev.pos (by omega) (Ev.neg (by omega) ?_)
  rw [et, e1, e2]
  refine Ev.bind (Ev.now _) (Ev.bind (a := true) ?_ (Ev.pos rfl (Ev.bind hP3 ?_)))
  · unfold bytes_Equal.f
    rw [beq_self_eq_true]
    exact Ev.now _
  unfold segment_open.body
  refine Ev.pos rfl (Ev.pos ⟨by dsimp only; omega, by dsimp only; omega⟩ ?_)
  dsimp only
  rw [e1, Int.toNat_natCast, hP1]
  refine Ev.bind (dec_is h hd) ?_
  unfold segment_open.last
  refine Ev.pos rfl (Ev.bind (proper_is h) (Ev.pos rfl (Ev.bind he (Ev.pos rfl (Ev.bind (a := true) ?_ (Ev.pos rfl (Ev.now _)))))))
  unfold bytes_Equal.f
  dsimp only
  rw [beq_self_eq_true]
  exact Ev.now _
/-! ### any bytes -/
theorem proper_any (x : List Int) (hl : x.length ≤ 1000000) : EvP (fun k => segment_proper.f k x) (fun e => e = 0 → Sgm x) := by
  unfold segment_proper.f
  refine EvP.ite (fun h => EvP.step (fun k => by rw [segment_proper.j0]) (EvP.pos rfl (EvP.ret fun e => by cases e))) (fun h => ?_)
  refine EvP.step (fun k => by rw [segment_proper.j0]) (EvP.ite (fun h2 => EvP.ret fun e => by cases e) (fun h2 => ?_))
  rw [decide_eq_true_iff] at h2
  refine EvP.bind1 (min_is (by omega) hl) (EvP.ite (fun h3 => EvP.ret fun e => by cases e) (fun h3 => ?_))
  refine EvP.bind1 (max_is (by omega) hl) (EvP.ite (fun h4 => EvP.ret fun e => by cases e) (fun h4 => EvP.ret fun _ => ⟨fun y hy => ?_, by omega, by omega⟩))
  have a := (minL_le (x := x) (by omega)).1 y hy
  have b := (le_maxL (x := x) (by omega)).1 y hy
  omega
theorem unp_any (b : List Int) (w n : Int) : ∃ r : List Int × Int, codec_Unpack.f b w n = some r ∧ r.1.length ≤ 2000 := by
  unfold codec_Unpack.f
  by_cases hw : w < 0 ∨ 32 < w
  · exact ⟨_, if_pos hw, Nat.zero_le _⟩
  rw [if_neg hw]
  by_cases hn : n < 0 ∨ 2000 < n
  · exact ⟨_, if_pos hn, Nat.zero_le _⟩
  rw [if_neg hn]
  obtain ⟨u, rfl⟩ := Int.eq_ofNat_of_zero_le (show 0 ≤ w by omega)
  obtain ⟨v, rfl⟩ := Int.eq_ofNat_of_zero_le (show 0 ≤ n by omega)
  rw [size_is (w := u) (n := v) (by omega) (by omega), Option.bind_some]
  by_cases h1 : (b.length : Int) = (((u * v + 7) / 8 : Nat) : Int)
  · rw [if_pos h1, Int.toNat_natCast, Int.toNat_natCast, if_pos rfl]
    by_cases h2 : X.padb (X.bitz b) (u * v) (8 * b.length) = true
    · exact ⟨_, if_pos h2, by rw [X.unp_len]; omega⟩
    · exact ⟨_, if_neg h2, Nat.zero_le _⟩
  · exact ⟨_, if_neg h1, Nat.zero_le _⟩
theorem unpk_any0 (a0 a1 a2 a3 a4 : Int) (d : Nat) : ∀ (i : Nat) (x : List Int), i + d = x.length → x.length ≤ 2000 → EvP (fun k => segment_packed_decode.l0 k x (x.length : Int) (i : Int) a0 a1 a2 a3 a4) (fun r => r.1.length ≤ 2000) := by
  induction d with
  | zero =>
    intro i x hi hx
    exact EvP.step (fun k => by rw [segment_packed_decode.l0]) (EvP.neg (by omega) (EvP.ret hx))
  | succ d ih =>
    intro i x hi hx
    refine EvP.step (fun k => by rw [segment_packed_decode.l0]) (EvP.pos (by omega) (EvP.pos (by omega) (EvP.pos (by omega) ?_)))
    rw [w_succ (by omega)]
    have := ih (i + 1) (x.set ((i : Int)).toNat (wrap64 (rd x (i : Int) + a2))) (by rw [List.length_set]; omega) (by rw [List.length_set]; omega)
    rw [List.length_set] at this
    exact this
theorem undlt_any0 (y : List Int) (hy : y.length ≤ 2000) (d : Nat) : ∀ (i : Nat) (x : List Int), i + d = y.length → 1 ≤ x.length → x.length ≤ i + 1 → EvP (fun k => segment_delta_decode.l0 k x y (y.length : Int) (i : Int)) (fun r => r.1.length ≤ 2001) := by
  induction d with
  | zero =>
    intro i x hi h1 h2
    exact EvP.step (fun k => by rw [segment_delta_decode.l0]) (EvP.neg (by omega) (EvP.ret (by dsimp only; omega)))
  | succ d ih =>
    intro i x hi h1 h2
    refine EvP.step (fun k => by rw [segment_delta_decode.l0]) (EvP.pos (by omega) (EvP.pos (by omega) (EvP.pos (by omega) ?_)))
    rw [show wrap64 ((x.length : Int) - 1) = ((x.length - 1 : Nat) : Int) by rw [w64 (by omega) (by omega)]; omega]
    refine EvP.pos (by omega) (EvP.pos (by omega) (EvP.pos (by omega) ?_))
    rw [w_succ (by omega)]
    exact ih (i + 1) _ (by omega) (by simp) (by simp; omega)
theorem dec_any {c : List Int} (hc : bts c) (hl : c.length ≤ 900) {h0 h1 h2 h3 h4 : Int} (g0 : 0 ≤ h0) (g0' : h0 ≤ 2) (g1 : 1 ≤ h1) (g1' : h1 ≤ 64) (g2 : -1000 ≤ h2) (g2' : h2 ≤ 1000) (g3 : h2 ≤ h3) (g3' : h3 ≤ h2 + 2000) :
    EvP (fun k => segment_open.dec k h0 h1 h2 h3 h4 c) (fun r => r.1.length ≤ 2001) := by
  unfold segment_open.dec
  refine EvP.ite (fun _ => ?_) (fun n0 => EvP.ite (fun _ => ?_) (fun n1 => EvP.pos (by omega) ?_))
  · unfold segment_constant_decode.f slices_Repeat_int_int.f
    rw [if_pos (show [h2].length = 1 from rfl), if_pos (by omega)]
    exact EvP.bind1 (Ev.now _) (EvP.ret (by simp; omega))
  · unfold segment_packed_decode.f
    rw [w64 (n := h3 - h2) (by omega) (by omega)]
    refine EvP.bind (width_is (xs := [h3 - h2]) (by simp) (sml_one (by omega) (by omega))) (fun t ht => ?_)
    obtain ⟨r, hr, hrl⟩ := unp_any c t h1
    rw [hr]
    refine EvP.bind1 (Ev.now _) (EvP.ite (fun _ => ?_) (fun _ => EvP.ret (by simp)))
    exact EvP.mono (unpk_any0 h0 h1 h2 h3 h4 r.1.length 0 r.1 (by omega) hrl) (fun _ h => by omega)
  · unfold segment_delta_decode.f
    have hj : ∀ (v : Int) (p : Nat) (t : Bool), (t = true ∨ p < c.length) → EvP (fun k => segment_delta_decode.j0 k c v (p : Int) t h0 h1 h2 h3 h4) (fun r => r.1.length ≤ 2001) := by
      intro v p t ht
      refine EvP.step (fun k => by rw [segment_delta_decode.j0]) (EvP.ite (fun _ => EvP.ret (by simp)) (fun hf => ?_))
      have hp : p < c.length := by
        rcases ht with h | h
        · exact absurd h hf
        · exact h
      rw [w_succ (by omega)]
      refine EvP.pos (by omega) (EvP.pos (by omega) (EvP.pos (by omega) (EvP.pos (by omega) ?_)))
      obtain ⟨r, hr, hrl⟩ := unp_any (c.drop ((p + 1 : Nat) : Int).toNat) (wrap64 (rd c (p : Int))) (wrap64 (h1 - 1))
      rw [hr]
      refine EvP.bind1 (Ev.now _) (EvP.ite (fun _ => ?_) (fun _ => EvP.ret (by simp)))
      exact undlt_any0 r.1 hrl r.1.length 0 [v] (by omega) (by simp) (by simp)
    have hj1 : ∀ (v : Int) (p : Int), EvP (fun k => segment_delta_decode.j0 k c v p true h0 h1 h2 h3 h4) (fun r => r.1.length ≤ 2001) := fun v p =>
      EvP.step (fun k => by rw [segment_delta_decode.j0]) (EvP.pos rfl (EvP.ret (by simp)))
    refine EvP.bind (int_any c hc 0 (by omega) (by omega)) (fun r hr => EvP.ite (fun e0 => ?_) (fun _ => hj1 _ _))
    obtain ⟨_, _, e, he, _, hel, _⟩ := hr e0
    rw [he]
    refine EvP.ite (fun _ => hj1 _ _) (fun hne => EvP.ite (fun _ => hj1 _ _) (fun _ => hj _ e _ (.inr (by omega))))
theorem rd4_any {b : List Int} (hb : bts b) (hl : b.length ≤ 900) : ∀ (n p : Nat) (acc : List Int), p ≤ b.length → EvP (fun k => segment_head.rd4 b k n (p : Int) acc) (fun o => ∀ ns q, o = some (ns, q) → ∃ P : Nat, q = (P : Int) ∧ P ≤ b.length)
  | 0, p, acc, hp => EvP.ret fun ns q e => by cases e; exact ⟨p, rfl, hp⟩
  | n + 1, p, acc, hp => by
    have e2 : (fun k => segment_head.rd4 b k (n + 1) (p : Int) acc) = fun k => (codec_Int.f k b (p : Int)).bind fun r => if r.2.2 = 0 then segment_head.rd4 b k n r.2.1 (acc ++ [r.1]) else some none := rfl
    rw [e2]
    refine EvP.bind (int_any b hb p hp (by omega)) (fun r hr => EvP.ite (fun e0 => ?_) (fun _ => EvP.ret fun ns q e => by cases e))
    obtain ⟨_, _, e, he, _, hel, _⟩ := hr e0
    rw [he]
    exact rd4_any hb hl n e _ hel
theorem head_any {b : List Int} (hb : bts b) (h0 : 0 < b.length) (hl : b.length ≤ 900) : EvP (fun k => segment_head.f k b) (fun r => r.2.2.2.2.2.2 = true → 0 ≤ r.1 ∧ r.1 ≤ 2 ∧ 1 ≤ r.2.1 ∧ r.2.1 ≤ 64 ∧ -1000 ≤ r.2.2.1 ∧ r.2.2.1 ≤ 1000 ∧ r.2.2.1 ≤ r.2.2.2.1 ∧ r.2.2.2.1 ≤ r.2.2.1 + 2000 ∧ ∃ P : Nat, r.2.2.2.2.2.1 = (P : Int) ∧ P ≤ b.length) := by
  unfold segment_head.f
  refine EvP.bind (rd4_any hb hl 4 1 [] (by omega)) (fun o ho => ?_)
  cases o with
  | none => exact EvP.ret fun e => by cases e
  | some o =>
    obtain ⟨ns, q⟩ := o
    obtain ⟨P, rfl, hP⟩ := ho ns q rfl
    have h8 := hb b[0] (List.getElem_mem h0)
    have er : rd b 0 = b[0] := rd_nat b 0 h0
    unfold segment_head.fin
    rw [er, w64 (n := b[0]) (by omega) (by omega)]
    refine EvP.pos h0 (EvP.ite (fun _ => EvP.ret fun e => by cases e) (fun hbad => EvP.ret fun _ => ?_))
    unfold segment_head.bad at hbad
    dsimp only
    rw [w64 (n := rd ns 1 + rd ns 2) (by omega) (by omega)]
    exact ⟨by omega, by omega, by omega, by omega, by omega, by omega, by omega, by omega, P, rfl, hP⟩
/-- Whatever is read, its own bytes are what was read. -/
theorem open_any {b : List Int} (hb : bts b) (hl : b.length ≤ 900) : EvP (fun k => segment_open.f k b) (fun r => (r.2.2.2.2.2.2 = 0 ∧ Sgm r.2.2.2.2.2.1 ∧ Ev (fun k => segment_Encode.f k r.2.2.2.2.2.1) (b, 0)) ∨ (r.2.2.2.2.2.2 ≠ 0 ∧ r.2.2.2.2.2.1 = [])) := by
  have no : ∀ e : Int, e ≠ 0 → EvP (fun _ => segment_open.no e) (fun r => (r.2.2.2.2.2.2 = 0 ∧ Sgm r.2.2.2.2.2.1 ∧ Ev (fun k => segment_Encode.f k r.2.2.2.2.2.1) (b, 0)) ∨ (r.2.2.2.2.2.2 ≠ 0 ∧ r.2.2.2.2.2.1 = [])) := fun e he => EvP.ret (.inr ⟨he, rfl⟩)
  unfold segment_open.f
  refine EvP.pos (by omega) (EvP.ite (fun _ => no 2 (by decide)) (fun h9 => ?_))
  refine EvP.bind1 (Ev.now _) (EvP.bind1 (Ev.now _) (EvP.ite (fun _ => ?_) (fun _ => no 5 (by decide))))
  have htl : (b.take (b.length - 4)).length = b.length - 4 := by rw [List.length_take]; omega
  have htb : bts (b.take (b.length - 4)) := fun y hy => hb y (List.mem_of_mem_take hy)
  refine EvP.bind (head_any htb (by omega) (by omega)) (fun h hh => ?_)
  unfold segment_open.body
  refine EvP.ite (fun ht => ?_) (fun _ => no 3 (by decide))
  obtain ⟨g0, g0', g1, g1', g2, g2', g3, g3', P, eP, hP⟩ := hh ht
  rw [eP]
  refine EvP.pos ⟨by omega, by omega⟩ ?_
  refine EvP.bind (dec_any (fun y hy => htb y (List.mem_of_mem_drop hy)) (by rw [List.length_drop]; omega) g0 g0' g1 g1' g2 g2' g3 g3') (fun x hx => ?_)
  unfold segment_open.last
  refine EvP.ite (fun _ => ?_) (fun _ => no 3 (by decide))
  refine EvP.bind (proper_any x.1 (by omega)) (fun e he => EvP.ite (fun e0 => ?_) (fun _ => no 3 (by decide)))
  have hs := he e0
  obtain ⟨r, hr, kd, data, hd, rfl⟩ := Encode_is hs
  refine EvP.bind1 hr (EvP.pos rfl (EvP.bind1 (Ev.now _) (EvP.ite (fun hq => ?_) (fun _ => no 3 (by decide)))))
  have eb : sealB (body x.1 kd data) = b := str_inj (sealB_bts (body_bts hs hd)) hb (by rw [beq_iff_eq] at hq; exact hq)
  rw [eb] at hr
  exact EvP.ret (.inl ⟨rfl, hs, hr⟩)
theorem encode_nil : Ev (fun k => segment_Encode.f k []) ([], 8) := by
  unfold segment_Encode.f
  refine Ev.bind (a := 8) ?_ (Ev.neg (by decide) (Ev.now _))
  unfold segment_proper.f
  exact Ev.pos (by decide) (Ev.step (fun k => by rw [segment_proper.j0]) (Ev.pos rfl (Ev.now _)))
theorem keep_Ints_l0 (x y : List Int) (hl : x.length = y.length) (hn : x.length ≤ 1000000000) (d : Nat) : ∀ i : Nat, i + d = x.length → Ev (fun k => shapesearchkeep_Ints.l0 k x y (x.length : Int) (i : Int)) (decide (x.drop i = y.drop i)) := by
  induction d with
  | zero =>
    intro i hi
    refine Ev.step (fun k => by rw [shapesearchkeep_Ints.l0]) (Ev.neg (by omega) ?_)
    rw [List.drop_eq_nil_of_le (by omega), List.drop_eq_nil_of_le (by omega)]
    exact Ev.now _
  | succ d ih =>
    intro i hi
    have hlt : i < x.length := by omega
    have hlt' : i < y.length := by omega
    refine Ev.step (fun k => by rw [shapesearchkeep_Ints.l0]) (Ev.pos (by omega) (Ev.pos (by omega) (Ev.pos (by omega) (Ev.pos (by omega) ?_))))
    have e : wrap64 ((i : Int) + 1) = ((i + 1 : Nat) : Int) := by rw [w64 (by omega) (by omega)]; omega
    rw [rd_nat x i hlt, rd_nat y i hlt', List.drop_eq_getElem_cons hlt, List.drop_eq_getElem_cons hlt', e]
    by_cases h : x[i] = y[i]
    · refine Ev.pos h ?_
      have : decide (x[i] :: x.drop (i + 1) = y[i] :: y.drop (i + 1)) = decide (x.drop (i + 1) = y.drop (i + 1)) := by rw [h, decide_eq_decide, List.cons.injEq]; exact ⟨fun e => e.2, fun e => ⟨rfl, e⟩⟩
      rw [this]
      exact ih (i + 1) (by omega)
    · rw [decide_eq_false (fun e' => h (List.cons.inj e').1)]
      exact Ev.neg h (Ev.now _)
theorem keep_Ints_is (x y : List Int) (hn : x.length ≤ 1000000000) : Ev (fun k => shapesearchkeep_Ints.f k x y) (decide (x = y)) := by
  unfold shapesearchkeep_Ints.f
  by_cases h : x.length = y.length
  · have := keep_Ints_l0 x y h hn x.length 0 (by omega)
    simp only [List.drop_zero] at this
    exact Ev.pos (by omega) this
  · rw [decide_eq_false (fun e => h (by rw [e]))]
    exact Ev.neg (by omega) (Ev.now _)
theorem back_j0 {x b l1 : List Int} (h : Sgm x) (hb : 0 < b.length) (hl1 : bts l1) (hl : l1.length ≤ 400) {kd : Int} (hk : wrap64 (rd b 0) = kd) :
    EvP (fun k => shapesearchlaw10_SegmentBack.j0 k l1 x b false kd (x.length : Int) (minL x) (maxL x) (totL x)) (fun b => b = true) := by
  refine EvP.step (fun k => by rw [shapesearchlaw10_SegmentBack.j0]) (EvP.neg (by decide) ?_)
  rw [measure_is h.2.1 h.2.2]
  refine EvP.bind1 (Ev.now _) (EvP.pos (by omega) ?_)
  refine EvP.bind (Q := fun r => (r.2 = 0 ∧ Sgm r.1 ∧ Ev (fun k => segment_Encode.f k r.1) (l1, 0)) ∨ (r.2 ≠ 0 ∧ r.1 = [])) ?_ (fun r hr => ?_)
  · unfold segment_Decode.f
    exact EvP.bind (open_any hl1 (by omega)) (fun r hr => EvP.ret hr)
  have hc : ∀ {g f : Nat → Option Bool}, EvP g (fun b => b = true) → EvP (fun n => if (kd == wrap64 (rd b 0) && ((x.length : Int) == (x.length : Int) && (minL x == minL x && (maxL x == maxL x && totL x == totL x)))) = true then g n else f n) (fun b => b = true) := by
    intro g f hg
    refine EvP.pos ?_ hg
    rw [hk]
    simp
  rcases hr with ⟨r0, rs, re⟩ | ⟨r0, re⟩
  · exact EvP.bind1 re (hc (EvP.pos r0 (EvP.pos rfl (EvP.pos rfl (EvP.bind1 awake_is (EvP.ret rfl))))))
  · rw [re]
    exact EvP.bind1 encode_nil (hc (EvP.neg r0 (EvP.bind1 awake_is (EvP.ret rfl))))
theorem SegmentBack : shapesearchlaw10_SegmentBack.Pure := by
  intro l0 l1 h1 h2 h3 k1 k2 k3
  refine EvP.rounds ?_
  unfold shapesearchlaw10_SegmentBack.f
  refine EvP.ite (fun h => EvP.bind1 awake_is (EvP.ret rfl)) (fun hlen => ?_)
  refine EvP.bind (keep_New l0 h3 h1) (fun s hs => EvP.bind (made_is s.1 s.2 hs) (fun x hx => ?_))
  obtain ⟨_, h⟩ := hx
  generalize x.1 = x at *
  obtain ⟨r, hr, kd, data, hd, rfl⟩ := Encode_is h
  have ho := open_is h hd hr
  have hb := body_len h hd
  have hsl := seal_len (body x kd data)
  have hdl := dat_len h hd
  refine EvP.bind1 hr (EvP.bind1 (a := (x, 0)) ?_ (EvP.bind1 (a := (kd, (x.length : Int), minL x, maxL x, totL x, 0)) ?_ ?_))
  · unfold segment_Decode.f
    exact Ev.bind ho (Ev.now _)
  · unfold segment_Summary.f
    exact Ev.bind ho (Ev.now _)
  refine EvP.pos rfl (EvP.pos rfl (EvP.pos rfl (EvP.bind1 (keep_Ints_is x x (by have := h.2.2; omega)) (EvP.pos (by simp) ?_))))
  dsimp only
  rw [decide_eq_false (by omega)]
  refine back_j0 h (by omega) (fun y hy => b_u8 (k3 y hy)) (by omega) ?_
  have er : rd (sealB (body x kd data)) 0 = kd := by unfold sealB body; rfl
  rw [er, w64 (by omega) (by omega)]

end Go.Proofs.Ytdnhfofmfpgmmaa.Pure
