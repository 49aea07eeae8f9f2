/- This file proves plain laws about ratios in lowest terms and about comparing two ratios. No program is in sight. -/
import Derived.Test.YtodipcfbgnljeaaMathEu
namespace Go.Proofs.Ytodipcfbgnljeaa.Base

/-- The common divisor, as a whole number. -/
def gcdz (n d : Int) : Int := (Nat.gcd n.toNat d.toNat : Int)
/-- num / den in lowest terms, or an error. -/
def mkr (n d : Int) : Int × Int × Int := if n < 0 ∨ d < 1 then (0, 0, 1) else if n / gcdz n d ≤ 2305843009213693952 ∧ d / gcdz n d ≤ 1152921504606846976 then (n / gcdz n d, d / gcdz n d, 0) else (0, 0, 1)
def RatV (p q : Int) : Prop := 0 ≤ p ∧ p ≤ 2305843009213693952 ∧ 1 ≤ q ∧ q ≤ 1152921504606846976 ∧ gcdz p q = 1
theorem gcdz_pos {n d : Int} (hd : 1 ≤ d) : 1 ≤ gcdz n d := by
  unfold gcdz
  have : 0 < Nat.gcd n.toNat d.toNat := Nat.gcd_pos_of_pos_right _ (by omega)
  omega
theorem mkr_ok {n d : Int} (h0 : 0 ≤ n) (hn : n ≤ 2305843009213693952) (h1 : 1 ≤ d) (hd : d ≤ 1152921504606846976) : ∃ p q g : Int, mkr n d = (p, q, 0) ∧ RatV p q ∧ 1 ≤ g ∧ n = p * g ∧ d = q * g := by
  obtain ⟨a, rfl⟩ := Int.eq_ofNat_of_zero_le h0
  obtain ⟨b, rfl⟩ := Int.eq_ofNat_of_zero_le (show 0 ≤ d by omega)
  have hg : 0 < Nat.gcd a b := Nat.gcd_pos_of_pos_right _ (by omega)
  have ha : a / Nat.gcd a b * Nat.gcd a b = a := Nat.div_mul_cancel (Nat.gcd_dvd_left a b)
  have hb : b / Nat.gcd a b * Nat.gcd a b = b := Nat.div_mul_cancel (Nat.gcd_dvd_right a b)
  have hla : a / Nat.gcd a b ≤ a := Nat.div_le_self _ _
  have hlb : b / Nat.gcd a b ≤ b := Nat.div_le_self _ _
  have hpb : 0 < b / Nat.gcd a b := Nat.div_pos (Nat.le_of_dvd (by omega) (Nat.gcd_dvd_right a b)) hg
  have hc : Nat.gcd (a / Nat.gcd a b) (b / Nat.gcd a b) = 1 := Nat.coprime_div_gcd_div_gcd hg
  have e : gcdz (a : Int) (b : Int) = (Nat.gcd a b : Int) := by simp [gcdz]
  have e1 : (a : Int) / (Nat.gcd a b : Int) = ((a / Nat.gcd a b : Nat) : Int) := rfl
  have e2 : (b : Int) / (Nat.gcd a b : Int) = ((b / Nat.gcd a b : Nat) : Int) := rfl
  unfold mkr
  rw [if_neg (by omega), e, e1, e2]
  generalize a / Nat.gcd a b = p at *
  generalize b / Nat.gcd a b = q at *
  generalize Nat.gcd a b = g at *
  refine ⟨(p : Int), (q : Int), (g : Int), ?_, ⟨by omega, by omega, by omega, by omega, ?_⟩, by omega, ?_, ?_⟩
  · rw [if_pos ⟨by omega, by omega⟩]
  · unfold gcdz
    rw [Int.toNat_natCast, Int.toNat_natCast, hc]
    rfl
  · rw [← Int.natCast_mul, ha]
  · rw [← Int.natCast_mul, hb]
/-- -1, 0 or 1: how two ratios compare. -/
def cmpr (a b c d : Int) : Int := if a * d < c * b then -1 else if a * d = c * b then 0 else 1
theorem cmpr_eq {a b c d q r1 r2 : Int} (h1 : a = b * q + r1) (h2 : c = d * q + r2) : cmpr a b c d = cmpr d r2 b r1 := by
  unfold cmpr
  have e1 : a * d = b * q * d + r1 * d := by rw [h1, Int.add_mul]
  have e2 : c * b = b * q * d + r2 * b := by rw [h2]; grind
  have e3 : d * r1 = r1 * d := Int.mul_comm _ _
  have e4 : b * r2 = r2 * b := Int.mul_comm _ _
  rw [e1, e2, e3, e4]
  have i1 : (b * q * d + r1 * d < b * q * d + r2 * b) ↔ (r1 * d < r2 * b) := by omega
  have i2 : (b * q * d + r1 * d = b * q * d + r2 * b) ↔ (r1 * d = r2 * b) := by omega
  simp only [i1, i2]
theorem cmpr_lt {a b c d : Int} (hb : 1 ≤ b) (hd : 1 ≤ d) (h : a / b < c / d) : cmpr a b c d = -1 := by
  unfold cmpr
  rw [if_pos]
  have h1 : a < b * (a / b + 1) := by
    have := Int.mul_ediv_add_emod a b
    have := Int.emod_lt_of_pos a (show 0 < b by omega)
    rw [Int.mul_add]
    omega
  have h2 : d * (c / d) ≤ c := by
    have := Int.mul_ediv_add_emod c d
    have := Int.emod_nonneg c (show d ≠ 0 by omega)
    omega
  have h3 : a * d < b * (a / b + 1) * d := Int.mul_lt_mul_of_pos_right h1 (by omega)
  have h4 : b * (a / b + 1) * d ≤ b * (c / d) * d := Int.mul_le_mul_of_nonneg_right (Int.mul_le_mul_of_nonneg_left (by omega) (by omega)) (by omega)
  have h5 : d * (c / d) * b ≤ c * b := Int.mul_le_mul_of_nonneg_right h2 (by omega)
  have h6 : b * (c / d) * d = d * (c / d) * b := by grind
  omega
theorem cmpr_gt {a b c d : Int} (hb : 1 ≤ b) (hd : 1 ≤ d) (h : c / d < a / b) : cmpr a b c d = 1 := by
  have := cmpr_lt hd hb h
  unfold cmpr at this ⊢
  split at this
  · rw [if_neg (by omega), if_neg (by omega)]
  · split at this <;> omega
theorem cmpr_le {a b c d : Int} : cmpr a b c d ≤ 0 ↔ a * d ≤ c * b := by
  unfold cmpr
  split
  · omega
  · split <;> omega
theorem cmpr_neg {a b c d : Int} : cmpr a b c d < 0 ↔ a * d < c * b := by
  unfold cmpr
  split
  · omega
  · split <;> omega
/-- The shifted distance of two windows whose differences add up to s. -/
def shn (x y : List Int) (s : Int) : Int × Int × Int := mkr ((x.length : Int) * sqd x y - s * s) x.length
end Go.Proofs.Ytodipcfbgnljeaa.Base
