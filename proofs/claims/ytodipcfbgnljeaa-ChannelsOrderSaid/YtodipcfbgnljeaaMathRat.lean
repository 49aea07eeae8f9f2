/- This file proves plain laws about ratios in lowest terms and about comparing two ratios. No program is in sight. -/
import Derived.Test.YtodipcfbgnljeaaMathEu
namespace Go.Proofs.Ytodipcfbgnljeaa.Base

/-- The common divisor, as a whole number. -/
def gcdz (n d : Int) : Int:=(Nat.gcd n.toNat d.toNat : Int)
/-- num / den in lowest terms, or an error. -/
def mkr (n d : Int) : Int × Int × Int:=if n < 0 ∨ d < 1 then (0,0,1) else if n / gcdz n d ≤ 2305843009213693952∧d / gcdz n d ≤ 1152921504606846976 then (n / gcdz n d,d / gcdz n d,0) else (0,0,1)
def RatV (p q : Int) : Prop:=0 ≤ p∧p ≤ 2305843009213693952∧1 ≤ q∧q ≤ 1152921504606846976∧gcdz p q = 1
theorem gcdz_pos {n d : Int} (hd : 1 ≤ d) : 1 ≤ gcdz n d:=by
 unfold gcdz
 have : 0 < Nat.gcd n.toNat d.toNat:=Nat.gcd_pos_of_pos_right _ (by omega)
 omega
theorem mkr_ok {n d : Int} (h0 : 0 ≤ n) (hn : n ≤ 2305843009213693952) (h1 : 1 ≤ d) (hd : d ≤ 1152921504606846976) : ∃ p q g : Int,mkr n d = (p,q,0)∧RatV p q∧1 ≤ g∧n = p * g∧d = q * g:=by
 obtain ⟨a,rfl⟩:=Int.eq_ofNat_of_zero_le h0
 obtain ⟨b,rfl⟩:=Int.eq_ofNat_of_zero_le (show 0 ≤ d by omega)
 have hg : 0 < Nat.gcd a b:=Nat.gcd_pos_of_pos_right _ (by omega)
 have ha : a / Nat.gcd a b * Nat.gcd a b = a:=Nat.div_mul_cancel (Nat.gcd_dvd_left a b)
 have hb : b / Nat.gcd a b * Nat.gcd a b = b:=Nat.div_mul_cancel (Nat.gcd_dvd_right a b)
 have hla : a / Nat.gcd a b ≤ a:=Nat.div_le_self _ _
 have hlb : b / Nat.gcd a b ≤ b:=Nat.div_le_self _ _
 have hpb : 0 < b / Nat.gcd a b:=Nat.div_pos (Nat.le_of_dvd (by omega) (Nat.gcd_dvd_right a b)) hg
 have hc : Nat.gcd (a / Nat.gcd a b) (b / Nat.gcd a b) = 1:=Nat.coprime_div_gcd_div_gcd hg
 have e : gcdz (a : Int) (b : Int) = (Nat.gcd a b : Int):=by simp [gcdz]
 have e1 : (a : Int) / (Nat.gcd a b : Int) = ((a / Nat.gcd a b : Nat) : Int):=rfl
 have e2 : (b : Int) / (Nat.gcd a b : Int) = ((b / Nat.gcd a b : Nat) : Int):=rfl
 unfold mkr
 rw [if_neg (by omega),e,e1,e2]
 generalize a / Nat.gcd a b = p at *
 generalize b / Nat.gcd a b = q at *
 generalize Nat.gcd a b = g at *
 refine ⟨(p : Int),(q : Int),(g : Int),?_,⟨by omega,by omega,by omega,by omega,?_⟩,by omega,?_,?_⟩
 ·
  rw [if_pos ⟨by omega,by omega⟩]
 ·
  unfold gcdz
  rw [Int.toNat_natCast,Int.toNat_natCast,hc]
  rfl
 ·
  rw [← Int.natCast_mul,ha]
 ·
  rw [← Int.natCast_mul,hb]
/-- -1, 0 or 1: how two ratios compare. -/
def cmpr (a b c d : Int) : Int:=if a * d < c * b then -1 else if a * d = c * b then 0 else 1
theorem cmpr_neg {a b c d : Int} : cmpr a b c d < 0 ↔ a * d < c * b:=by
 unfold cmpr
 split
 ·
  omega
 ·
  split <;> omega
end Go.Proofs.Ytodipcfbgnljeaa.Base
