/- This file proves plain laws about the gap of two windows: what it is out of their variances and their product, and what a scaled or turned window does to it. No program is in sight. -/
import Derived.Test.YtodipcfbgnljeaaMathRat
namespace Go.Proofs.Ytodipcfbgnljeaa.Base

/-- The gap of two windows, out of their variances and their product. -/
def gapn (v w c : Int) : Int × Int × Int := if v = 0 ∧ w = 0 then mkr 0 1 else if v = 0 ∨ w = 0 then mkr 1 1 else if c < 0 then mkr (v * w + c * c) (v * w) else mkr (v * w - c * c) (v * w)
def gapv (x y : List Int) : Int × Int × Int := gapn (cov x x) (cov y y) (cov x y)
theorem mkr_scale {g n d : Int} (hg : 1 ≤ g) (hn : 0 ≤ n) (hd : 1 ≤ d) : mkr (g * n) (g * d) = mkr n d := by
  have e1 : gcdz (g * n) (g * d) = g * gcdz n d := by
    obtain ⟨a, rfl⟩ := Int.eq_ofNat_of_zero_le hn
    obtain ⟨b, rfl⟩ := Int.eq_ofNat_of_zero_le (show 0 ≤ d by omega)
    obtain ⟨c, rfl⟩ := Int.eq_ofNat_of_zero_le (show 0 ≤ g by omega)
    unfold gcdz
    rw [← Int.natCast_mul, ← Int.natCast_mul, Int.toNat_natCast, Int.toNat_natCast, Int.toNat_natCast, Int.toNat_natCast, Nat.gcd_mul_left, Int.natCast_mul]
  have p1 := Int.mul_nonneg (show 0 ≤ g by omega) hn
  have p2 := Int.mul_pos (show 0 < g by omega) (show 0 < d by omega)
  unfold mkr
  rw [if_neg (show ¬ (g * n < 0 ∨ g * d < 1) by omega), if_neg (show ¬ (n < 0 ∨ d < 1) by omega), e1, Int.mul_ediv_mul_of_pos _ _ (by omega), Int.mul_ediv_mul_of_pos _ _ (by omega)]
theorem gcdz_self {a : Int} (h : 1 ≤ a) : gcdz a a = a := by
  unfold gcdz
  rw [Nat.gcd_self]
  omega
theorem mkr_zero {d : Int} (h : 1 ≤ d) : mkr 0 d = (0, 1, 0) := by
  have e : gcdz 0 d = d := by
    unfold gcdz
    rw [show (0 : Int).toNat = 0 from rfl, Nat.gcd_zero_left]
    omega
  unfold mkr
  rw [if_neg (by omega), e, Int.ediv_self (by omega), Int.zero_ediv, if_pos (by omega)]
theorem mkr_two {d : Int} (h : 1 ≤ d) : mkr (d + d) d = (2, 1, 0) := by
  have e : d + d = d * 2 := by omega
  have e2 : mkr (d * 2) (d * 1) = mkr 2 1 := mkr_scale h (by omega) (by omega)
  rw [Int.mul_one] at e2
  rw [e, e2]
  decide
/-- A window scaled by f that is greater than 0, beside another: the gap stays. -/
theorem gapn_scale {f v w c : Int} (hf : 1 ≤ f) (hv : 0 ≤ v) (hw : 0 ≤ w) (hc : c * c ≤ v * w) : gapn (f * f * v) w (f * c) = gapn v w c := by
  have hff : 1 ≤ f * f := Int.mul_pos (show 0 < f by omega) (by omega)
  have z : f * f * v = 0 ↔ v = 0 := ⟨fun h => by rcases Int.mul_eq_zero.1 h with h | h <;> omega, fun h => by rw [h, Int.mul_zero]⟩
  have sg : f * c < 0 ↔ c < 0 := by
    constructor
    · intro h
      by_cases hc : c < 0
      · exact hc
      · have := Int.mul_nonneg (show 0 ≤ f by omega) (show 0 ≤ c by omega)
        omega
    · intro h
      have := Int.mul_lt_mul_of_pos_left h (show 0 < f by omega)
      rw [Int.mul_zero] at this
      exact this
  unfold gapn
  simp only [z, sg]
  split
  · rfl
  · split
    · rfl
    · rename_i h
      have hvw := Int.mul_pos (show 0 < v by omega) (show 0 < w by omega)
      have n1 := sqnn c
      have e1 : f * f * v * w = f * f * (v * w) := by grind
      have e2 : f * f * (v * w) + f * c * (f * c) = f * f * (v * w + c * c) := by grind
      have e3 : f * f * (v * w) - f * c * (f * c) = f * f * (v * w - c * c) := by grind
      rw [e1, e2, e3]
      split
      · exact mkr_scale hff (by omega) (by omega)
      · exact mkr_scale hff (by omega) (by omega)
/-- A window beside itself, scaled by f that is greater than 0. -/
theorem gapn_own {f v : Int} (hf : 1 ≤ f) (hv : 0 ≤ v) : gapn v (f * f * v) (f * v) = (0, 1, 0) := by
  have hff : 1 ≤ f * f := Int.mul_pos (show 0 < f by omega) (by omega)
  have z : f * f * v = 0 ↔ v = 0 := ⟨fun h => by rcases Int.mul_eq_zero.1 h with h | h <;> omega, fun h => by rw [h, Int.mul_zero]⟩
  have n1 := Int.mul_nonneg (show 0 ≤ f by omega) hv
  unfold gapn
  simp only [z]
  by_cases h : v = 0
  · rw [if_pos ⟨h, h⟩]
    exact mkr_zero (by omega)
  · rw [if_neg (by omega), if_neg (by omega), if_neg (by omega)]
    have e : v * (f * f * v) - f * v * (f * v) = 0 := by grind
    have hp := Int.mul_pos (show 0 < v by omega) (Int.mul_pos (show 0 < f * f by omega) (show 0 < v by omega))
    rw [e]
    exact mkr_zero (by omega)
/-- A window beside itself, turned. -/
theorem gapn_turned {f v : Int} (hf : 1 ≤ f) (hv : 0 ≤ v) : gapn v (f * f * v) (-(f * v)) = (if v = 0 then 0 else 2, 1, 0) := by
  have hff : 1 ≤ f * f := Int.mul_pos (show 0 < f by omega) (by omega)
  have z : f * f * v = 0 ↔ v = 0 := ⟨fun h => by rcases Int.mul_eq_zero.1 h with h | h <;> omega, fun h => by rw [h, Int.mul_zero]⟩
  unfold gapn
  simp only [z]
  by_cases h : v = 0
  · rw [if_pos ⟨h, h⟩, if_pos h]
    exact mkr_zero (by omega)
  · have hp0 := Int.mul_pos (show 0 < f by omega) (show 0 < v by omega)
    rw [if_neg (by omega), if_neg (by omega), if_pos (by omega), if_neg h]
    have e : -(f * v) * -(f * v) = v * (f * f * v) := by grind
    have hp := Int.mul_pos (show 0 < v by omega) (Int.mul_pos (show 0 < f * f by omega) (show 0 < v by omega))
    rw [e]
    exact mkr_two (by omega)
/-! ### scaled windows -/
def scl (f b : Int) (x : List Int) : List Int := x.map fun a => a * f + b
theorem scl_length (f b : Int) (x : List Int) : (scl f b x).length = x.length := by unfold scl; rw [List.length_map]
theorem sm_scl (f b : Int) : ∀ x : List Int, sm (scl f b x) = f * sm x + (x.length : Int) * b
  | [] => by simp [scl, sm]
  | a :: x => by
    have ih := sm_scl f b x
    have e : ((x.length + 1 : Nat) : Int) = (x.length : Int) + 1 := by omega
    simp only [scl, List.map_cons, sm, List.length_cons] at ih ⊢
    rw [ih, e]
    grind
theorem dot_scl (f b : Int) : ∀ x y : List Int, x.length = y.length → dot (scl f b x) y = f * dot x y + b * sm y
  | [], [], _ => by simp [scl, dot, sm]
  | a :: x, c :: y, h => by
    have ih := dot_scl f b x y (by simpa using h)
    simp only [scl, List.map_cons, dot, sm] at ih ⊢
    rw [ih]
    grind
theorem cov_scl (f b : Int) {x y : List Int} (h : x.length = y.length) : cov (scl f b x) y = f * cov x y := by
  unfold cov
  rw [scl_length, dot_scl f b x y h, sm_scl]
  grind
theorem cov_scl_own (f b : Int) (x : List Int) : cov x (scl f b x) = f * cov x x := by
  rw [cov_comm (by rw [scl_length]), cov_scl f b rfl]
theorem cov_scl_both (f b : Int) (x : List Int) : cov (scl f b x) (scl f b x) = f * f * cov x x := by
  rw [cov_scl f b (scl_length f b x).symm, cov_scl_own, Int.mul_assoc]
theorem gapv_scl {f : Int} (b : Int) {x y : List Int} (hf : 1 ≤ f) (h : x.length = y.length) : gapv (scl f b x) y = gapv x y := by
  unfold gapv
  rw [cov_scl_both, cov_scl f b h]
  exact gapn_scale hf (cov_self_nonneg x) (cov_self_nonneg y) (cov_cs h)
theorem gapv_own {f : Int} (b : Int) (x : List Int) (hf : 1 ≤ f) : gapv x (scl f b x) = (0, 1, 0) := by
  unfold gapv
  rw [cov_scl_both, cov_scl_own]
  exact gapn_own hf (cov_self_nonneg x)
theorem gapv_turned {f : Int} (b : Int) (x : List Int) (hf : 1 ≤ f) : gapv x (scl (-f) b x) = (if cov x x = 0 then 0 else 2, 1, 0) := by
  unfold gapv
  rw [cov_scl_both, cov_scl_own, Int.neg_mul_neg, Int.neg_mul]
  exact gapn_turned hf (cov_self_nonneg x)
/-! ### windows that do not move -/
theorem dot_zero : ∀ z : List Int, dot z z = 0 → ∀ a ∈ z, a = 0
  | [], _, a, ha => by cases ha
  | c :: z, h, a, ha => by
    have h1 := sqnn c
    have h2 := dot_nonneg z
    simp only [dot] at h
    rcases List.mem_cons.1 ha with rfl | ha
    · rcases Int.mul_eq_zero.1 (show a * a = 0 by omega) with h | h <;> exact h
    · exact dot_zero z (by omega) a ha
theorem sm_same (c : Int) : ∀ x : List Int, (∀ a ∈ x, a = c) → sm x = (x.length : Int) * c
  | [], _ => by simp [sm]
  | a :: x, h => by
    have ih := sm_same c x (fun b hb => h b (by simp [hb]))
    have e : ((x.length + 1 : Nat) : Int) = (x.length : Int) + 1 := by omega
    have := h a (by simp)
    simp only [sm, List.length_cons]
    rw [ih, e, this]
    grind
theorem dot_same (c : Int) : ∀ x : List Int, (∀ a ∈ x, a = c) → dot x x = (x.length : Int) * (c * c)
  | [], _ => by simp [dot]
  | a :: x, h => by
    have ih := dot_same c x (fun b hb => h b (by simp [hb]))
    have e : ((x.length + 1 : Nat) : Int) = (x.length : Int) + 1 := by omega
    have := h a (by simp)
    simp only [dot, List.length_cons]
    rw [ih, e, this]
    grind
theorem cov_same {x : List Int} {c : Int} (h : ∀ a ∈ x, a = c) : cov x x = 0 := by
  unfold cov
  rw [sm_same c x h, dot_same c x h]
  grind
theorem same_of_cov {x : List Int} (h0 : 0 < x.length) (h : cov x x = 0) : ∀ a ∈ x, ∀ b ∈ x, a = b := by
  have h1 := cov_cen (u := x) (v := x) rfl
  rw [h, Int.mul_zero] at h1
  have h2 := dot_zero _ h1
  have key : ∀ a ∈ x, (x.length : Int) * a = sm x := by
    intro a ha
    have := h2 ((x.length : Int) * a - sm x) (List.mem_map.2 ⟨a, ha, rfl⟩)
    omega
  intro a ha b hb
  exact Int.eq_of_mul_eq_mul_left (show (x.length : Int) ≠ 0 by omega) (by rw [key a ha, key b hb])
end Go.Proofs.Ytodipcfbgnljeaa.Base
