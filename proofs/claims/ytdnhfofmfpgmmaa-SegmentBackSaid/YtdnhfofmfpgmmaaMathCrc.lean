/- This file proves that the checksum of bytes changes if one byte changes: each step of the register can be taken back. -/
import Derived.Test.YtdnhfofmfpgmmaaXSum
import Derived.Test.YtdnhfofmfpgmmaaBase
set_option linter.unusedVariables false
namespace Go.Proofs.Ytdnhfofmfpgmmaa.Base
open Go.RowKit Go.Proofs.Ytdnhfofmfpgmmaa.X
theorem bits_xor_nat (k : IntKind) (hk : ∀ n : Int, 0 ≤ n → n < 2 ^ k.bits → k.wrap n = n) (a b : Nat) (ha : a < 2 ^ k.bits) (hb : b < 2 ^ k.bits) : Go.bits .xor k a b = ((a ^^^ b : Nat) : Int) := by
  have ha' : a % 2 ^ k.bits = a := Nat.mod_eq_of_lt ha
  have hb' : b % 2 ^ k.bits = b := Nat.mod_eq_of_lt hb
  simp only [Go.bits, BitVec.ofInt_natCast, BitVec.toNat_xor, BitVec.toNat_ofNat, ha', hb']
  exact hk _ (Int.natCast_nonneg _) (by exact_mod_cast Nat.xor_lt_two_pow ha hb)
theorem wr_u8 : ∀ n : Int, 0 ≤ n → n < 2 ^ IntKind.u8.bits → IntKind.u8.wrap n = n := by
  intro n h0 h1
  have e : (2 : Int) ^ IntKind.u8.bits = 256 := rfl
  simp [IntKind.wrap, IntKind.bits, IntKind.signed]
  omega
theorem wr_u32 : ∀ n : Int, 0 ≤ n → n < 2 ^ IntKind.u32.bits → IntKind.u32.wrap n = n := by
  intro n h0 h1
  have e : (2 : Int) ^ IntKind.u32.bits = 4294967296 := rfl
  simp [IntKind.wrap, IntKind.bits, IntKind.signed]
  omega
theorem xor_u8 (a b : Nat) (ha : a < 256) (hb : b < 256) : Go.bits .xor .u8 a b = ((a ^^^ b : Nat) : Int) := bits_xor_nat .u8 wr_u8 a b ha hb
theorem xor_u32 (a b : Nat) (ha : a < 4294967296) (hb : b < 4294967296) : Go.bits .xor .u32 a b = ((a ^^^ b : Nat) : Int) := bits_xor_nat .u32 wr_u32 a b ha hb
theorem xor_cancel {a b c : Nat} (h : a ^^^ b = a ^^^ c) : b = c := by
  have : a ^^^ (a ^^^ b) = a ^^^ (a ^^^ c) := by rw [h]
  rwa [← Nat.xor_assoc, ← Nat.xor_assoc, Nat.xor_self, Nat.zero_xor, Nat.zero_xor] at this
/-- The words of the table are words, and their first bytes tell their places: eight steps back. -/
def back : Nat → Nat → Nat
  | 0, y => y
  | n + 1, y => back n (if 2147483648 ≤ y then ((y ^^^ 3988292384) * 2 + 1) % 4294967296 else y * 2 % 4294967296)
theorem crcT_back : ∀ i < 256, 0 ≤ crcT i ∧ crcT i < 4294967296 ∧ back 8 ((crcT i).toNat / 16777216 * 16777216) % 256 = i := by decide +kernel
end Go.Proofs.Ytdnhfofmfpgmmaa.Base
