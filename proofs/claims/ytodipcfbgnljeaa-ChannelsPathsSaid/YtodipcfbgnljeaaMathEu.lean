/- This file proves plain laws about sums of squares and of products of lists of numbers: signs, bounds, symmetry, the inequality of Cauchy and Schwarz, and the triangle of roots. No program is in sight. -/
namespace Go.Proofs.Ytodipcfbgnljeaa.Base

theorem sqnn (a : Int) : 0 ≤ a * a := by
  rcases Int.le_total 0 a with h | h
  · exact Int.mul_nonneg h h
  · have := Int.mul_nonneg (show 0 ≤ -a by omega) (show 0 ≤ -a by omega)
    rwa [Int.neg_mul_neg] at this
theorem mul_le4 {a b A B : Int} (ha : 0 ≤ a) (hA : a ≤ A) (hb : 0 ≤ b) (hB : b ≤ B) : a * b ≤ A * B := Int.mul_le_mul hA hB hb (Int.le_trans ha hA)
theorem abs_sq {a m : Int} (h1 : -m ≤ a) (h2 : a ≤ m) : a * a ≤ m * m := by
  rcases Int.le_total 0 a with h | h
  · exact mul_le4 h h2 h h2
  · have := mul_le4 (show 0 ≤ -a by omega) (show -a ≤ m by omega) (show 0 ≤ -a by omega) (show -a ≤ m by omega)
    rwa [Int.neg_mul_neg] at this
/-- A number whose square is at most that of one that is not negative. -/
theorem le_of_sq {a b : Int} (hb : 0 ≤ b) (h : a * a ≤ b * b) : a ≤ b := by
  by_cases hlt : b < a
  · have h1 : b * b < a * a := Int.lt_of_le_of_lt (Int.mul_le_mul_of_nonneg_left (Int.le_of_lt hlt) hb) (Int.mul_lt_mul_of_pos_right hlt (by omega))
    omega
  · omega

/-- The sum of the squares of the differences. -/
def sqd : List Int → List Int → Int
  | a :: x, b :: y => (a - b) * (a - b) + sqd x y
  | _, _ => 0
/-- The sum of the products. -/
def dot : List Int → List Int → Int
  | a :: x, b :: y => a * b + dot x y
  | _, _ => 0
def sm : List Int → Int
  | a :: x => a + sm x
  | [] => 0
theorem sqd_nonneg : ∀ x y : List Int, 0 ≤ sqd x y
  | [], y => by simp [sqd]
  | a :: x, [] => by simp [sqd]
  | a :: x, b :: y => by
    have := sqd_nonneg x y
    have := sqnn (a - b)
    simp only [sqd]
    omega
theorem sqd_comm : ∀ x y : List Int, sqd x y = sqd y x
  | [], [] => rfl
  | [], b :: y => rfl
  | a :: x, [] => rfl
  | a :: x, b :: y => by
    simp only [sqd]
    rw [sqd_comm x y]
    have : (a - b) * (a - b) = (b - a) * (b - a) := by rw [← Int.neg_mul_neg]; congr 1 <;> omega
    omega
theorem sqd_zero : ∀ x y : List Int, x.length = y.length → (sqd x y = 0 ↔ x = y)
  | [], [], _ => by simp [sqd]
  | a :: x, b :: y, h => by
    have h1 := sqnn (a - b)
    have h2 := sqd_nonneg x y
    have ih := sqd_zero x y (by simpa using h)
    simp only [sqd, List.cons.injEq]
    constructor
    · intro e
      have e1 : (a - b) * (a - b) = 0 := by omega
      rcases Int.mul_eq_zero.1 e1 with e1 | e1
      · exact ⟨by omega, ih.1 (by omega)⟩
      · exact ⟨by omega, ih.1 (by omega)⟩
    · rintro ⟨rfl, e⟩
      have := ih.2 e
      simp [this]
theorem sqd_le (M : Int) : ∀ x y : List Int, (∀ a ∈ x, -M ≤ a ∧ a ≤ M) → (∀ b ∈ y, -M ≤ b ∧ b ≤ M) → sqd x y ≤ (2 * M) * (2 * M) * x.length
  | [], y, _, _ => by simp [sqd]
  | a :: x, [], hx, _ => by
    have h1 := sqnn (2 * M)
    have := Int.mul_nonneg h1 (show (0 : Int) ≤ ((a :: x).length : Int) by omega)
    simp only [sqd]
    exact this
  | a :: x, b :: y, hx, hy => by
    have ih := sqd_le M x y (fun c hc => hx c (by simp [hc])) (fun c hc => hy c (by simp [hc]))
    have h1 := hx a (by simp)
    have h2 := hy b (by simp)
    have h3 := abs_sq (a := a - b) (m := 2 * M) (by omega) (by omega)
    simp only [sqd, List.length_cons]
    have : ((x.length + 1 : Nat) : Int) = (x.length : Int) + 1 := by omega
    rw [this, Int.mul_add, Int.mul_one]
    omega
/-- Cauchy and Schwarz, with the parts told: one step. -/
theorem cs_step {S A B u v : Int} (hA : 0 ≤ A) (hB : 0 ≤ B) (h : S * S ≤ A * B) : (u * v + S) * (u * v + S) ≤ (u * u + A) * (v * v + B) := by
  have key : 2 * (S * (u * v)) ≤ A * (v * v) + B * (u * u) := by
    apply le_of_sq
    · exact Int.add_nonneg (Int.mul_nonneg hA (sqnn v)) (Int.mul_nonneg hB (sqnn u))
    · have h1 : (S * S) * ((u * v) * (u * v)) ≤ (A * B) * ((u * v) * (u * v)) := Int.mul_le_mul_of_nonneg_right h (sqnn _)
      have h2 := sqnn (A * (v * v) - B * (u * u))
      grind
  grind
theorem cs : ∀ x y : List Int, dot x y * dot x y ≤ dot x x * dot y y
  | [], y => by simp [dot]
  | a :: x, [] => by simp [dot]
  | a :: x, b :: y => by
    have ih := cs x y
    have h1 : ∀ z : List Int, 0 ≤ dot z z := by
      intro z
      induction z with
      | nil => simp [dot]
      | cons c z ih => have := sqnn c; simp only [dot]; omega
    simp only [dot]
    exact cs_step (h1 x) (h1 y) ih
def sub : List Int → List Int → List Int
  | a :: x, b :: y => (a - b) :: sub x y
  | _, _ => []
theorem sqd_sub : ∀ x y : List Int, sqd x y = dot (sub x y) (sub x y)
  | [], y => by simp [sqd, sub, dot]
  | a :: x, [] => by simp [sqd, sub, dot]
  | a :: x, b :: y => by simp only [sqd, sub, dot, sqd_sub x y]
theorem sqd_three : ∀ x y z : List Int, x.length = y.length → y.length = z.length → sqd x z = sqd x y + sqd y z + 2 * dot (sub x y) (sub y z)
  | [], [], [], _, _ => by simp [sqd, sub, dot]
  | a :: x, b :: y, c :: z, h1, h2 => by
    have ih := sqd_three x y z (by simpa using h1) (by simpa using h2)
    simp only [sqd, sub, dot, ih]
    grind
/-- The roots of a, b and c obey the triangle. -/
theorem triangle_sq {a b c s : Int} (hc : c = a + b + 2 * s) (h : s * s ≤ a * b) : (c - a - b) * (c - a - b) ≤ 4 * a * b := by
  have : c - a - b = 2 * s := by omega
  rw [this]
  grind
theorem sqd_triangle (x y z : List Int) (h1 : x.length = y.length) (h2 : y.length = z.length) : (sqd x z - sqd x y - sqd y z) * (sqd x z - sqd x y - sqd y z) ≤ 4 * sqd x y * sqd y z := by
  refine triangle_sq (sqd_three x y z h1 h2) ?_
  rw [sqd_sub x y, sqd_sub y z]
  exact cs _ _
/-- The sum of the differences. -/
def sdif : List Int → List Int → Int
  | a :: x, b :: y => (a - b) + sdif x y
  | _, _ => 0
theorem sdif_comm : ∀ x y : List Int, sdif x y = -sdif y x
  | [], [] => rfl
  | [], b :: y => rfl
  | a :: x, [] => rfl
  | a :: x, b :: y => by
    simp only [sdif]
    rw [sdif_comm x y]
    omega
/-- The square of a sum is at most the number of its parts times the sum of their squares; one step. -/
theorem var_step {n S Q u : Int} (hn : 0 ≤ n) (hQ : 0 ≤ Q) (h : S * S ≤ n * Q) : (u + S) * (u + S) ≤ (n + 1) * (u * u + Q) := by
  have key : 2 * (u * S) ≤ n * (u * u) + Q := by
    apply le_of_sq
    · exact Int.add_nonneg (Int.mul_nonneg hn (sqnn u)) hQ
    · have h1 : (S * S) * (u * u) ≤ (n * Q) * (u * u) := Int.mul_le_mul_of_nonneg_right h (sqnn _)
      have h2 := sqnn (n * (u * u) - Q)
      grind
  grind
theorem var_le : ∀ x y : List Int, x.length = y.length → sdif x y * sdif x y ≤ (x.length : Int) * sqd x y
  | [], [], _ => by simp [sdif, sqd]
  | a :: x, b :: y, h => by
    have ih := var_le x y (by simpa using h)
    have := var_step (u := a - b) (show (0 : Int) ≤ x.length by omega) (sqd_nonneg x y) ih
    simp only [sdif, sqd, List.length_cons]
    have e : ((x.length + 1 : Nat) : Int) = (x.length : Int) + 1 := by omega
    rw [e]
    exact this
theorem var_nonneg (x y : List Int) (h : x.length = y.length) : 0 ≤ (x.length : Int) * sqd x y - sdif x y * sdif x y := by
  have := var_le x y h
  omega
/-! ### sums about their mean -/
theorem sdif_sub : ∀ x y : List Int, sdif x y = sm (sub x y)
  | [], y => by simp [sdif, sub, sm]
  | a :: x, [] => by simp [sdif, sub, sm]
  | a :: x, b :: y => by simp only [sdif, sub, sm, sdif_sub x y]
theorem sdif_three : ∀ x y z : List Int, x.length = y.length → y.length = z.length → sdif x z = sdif x y + sdif y z
  | [], [], [], _, _ => by simp [sdif]
  | a :: x, b :: y, c :: z, h1, h2 => by
    have ih := sdif_three x y z (by simpa using h1) (by simpa using h2)
    simp only [sdif, ih]
    omega
theorem sub_length : ∀ x y : List Int, x.length = y.length → (sub x y).length = x.length
  | [], [], _ => rfl
  | a :: x, b :: y, h => by
    simp only [sub, List.length_cons]
    rw [sub_length x y (by simpa using h)]
def cen (m s : Int) (u : List Int) : List Int := u.map fun a => m * a - s
theorem dot_cen (m s t : Int) : ∀ u v : List Int, u.length = v.length → dot (cen m s u) (cen m t v) = m * m * dot u v - m * t * sm u - m * s * sm v + (u.length : Int) * (s * t)
  | [], [], _ => by simp [cen, dot, sm]
  | a :: u, b :: v, h => by
    have ih := dot_cen m s t u v (by simpa using h)
    have e : ((u.length + 1 : Nat) : Int) = (u.length : Int) + 1 := by omega
    simp only [cen, List.map_cons, dot, sm, List.length_cons] at ih ⊢
    rw [ih, e]
    grind
/-- m times the sum of the products, less the product of the sums. -/
def cov (u v : List Int) : Int := (u.length : Int) * dot u v - sm u * sm v
theorem cov_cen {u v : List Int} (h : u.length = v.length) : dot (cen u.length (sm u) u) (cen u.length (sm v) v) = (u.length : Int) * cov u v := by
  rw [dot_cen _ _ _ u v h]
  unfold cov
  grind
theorem cov_cs {u v : List Int} (h : u.length = v.length) : cov u v * cov u v ≤ cov u u * cov v v := by
  rcases Nat.eq_zero_or_pos u.length with h0 | h0
  · have hu : u = [] := List.length_eq_zero_iff.1 h0
    have hv : v = [] := List.length_eq_zero_iff.1 (by omega)
    subst hu
    subst hv
    simp [cov, dot, sm]
  · have c1 := cs (cen u.length (sm u) u) (cen u.length (sm v) v)
    have e1 := cov_cen h
    have e2 := cov_cen (u := u) (v := u) rfl
    have e3 := cov_cen (u := v) (v := v) rfl
    have hl : (v.length : Int) = u.length := by omega
    rw [hl] at e3
    rw [e1, e2, e3] at c1
    have hp : 0 < (u.length : Int) * (u.length : Int) := Int.mul_pos (by omega) (by omega)
    have c2 : (u.length : Int) * (u.length : Int) * (cov u v * cov u v) ≤ (u.length : Int) * (u.length : Int) * (cov u u * cov v v) := by grind
    exact Int.le_of_mul_le_mul_left c2 hp
theorem cov_self_nonneg (u : List Int) : 0 ≤ cov u u := by
  have := var_nonneg u (List.replicate u.length 0) (by simp)
  have e1 : ∀ w : List Int, sqd w (List.replicate w.length 0) = dot w w := by
    intro w
    induction w with
    | nil => rfl
    | cons a w ih => simp only [List.length_cons, List.replicate_succ, sqd, dot, ih, Int.sub_zero]
  have e2 : ∀ w : List Int, sdif w (List.replicate w.length 0) = sm w := by
    intro w
    induction w with
    | nil => rfl
    | cons a w ih => simp only [List.length_cons, List.replicate_succ, sdif, sm, ih, Int.sub_zero]
  rw [e1, e2] at this
  exact this
theorem cov_sub {x y : List Int} (h : x.length = y.length) : cov (sub x y) (sub x y) = (x.length : Int) * sqd x y - sdif x y * sdif x y := by
  unfold cov
  rw [sub_length x y h, sqd_sub, sdif_sub]
theorem cov_triangle (x y z : List Int) (h1 : x.length = y.length) (h2 : y.length = z.length) :
    (cov (sub x z) (sub x z) - cov (sub x y) (sub x y) - cov (sub y z) (sub y z)) * (cov (sub x z) (sub x z) - cov (sub x y) (sub x y) - cov (sub y z) (sub y z)) ≤ 4 * cov (sub x y) (sub x y) * cov (sub y z) (sub y z) := by
  have l1 := sub_length x y h1
  have l2 := sub_length y z h2
  refine triangle_sq (s := cov (sub x y) (sub y z)) ?_ (cov_cs (by omega))
  have e1 := sqd_three x y z h1 h2
  have e2 := sdif_three x y z h1 h2
  rw [cov_sub (x := x) (y := z) (by omega), cov_sub h1, cov_sub h2, e1, e2]
  unfold cov
  rw [l1, ← sdif_sub, ← sdif_sub, ← h1]
  grind
/-! ### shifts, beginnings -/
theorem sqd_shift (b : Int) : ∀ x y : List Int, x.length = y.length → sqd x (y.map (· + b)) = sqd x y - 2 * b * sdif x y + (x.length : Int) * (b * b)
  | [], [], _ => by simp [sqd, sdif]
  | a :: x, c :: y, h => by
    have ih := sqd_shift b x y (by simpa using h)
    have e : ((x.length + 1 : Nat) : Int) = (x.length : Int) + 1 := by omega
    simp only [List.map_cons, sqd, sdif, List.length_cons, ih, e]
    grind
theorem sdif_shift (b : Int) : ∀ x y : List Int, x.length = y.length → sdif x (y.map (· + b)) = sdif x y - (x.length : Int) * b
  | [], [], _ => by simp [sdif]
  | a :: x, c :: y, h => by
    have ih := sdif_shift b x y (by simpa using h)
    have e : ((x.length + 1 : Nat) : Int) = (x.length : Int) + 1 := by omega
    simp only [List.map_cons, sdif, List.length_cons, ih, e]
    grind
theorem var_shift (b : Int) (x y : List Int) (h : x.length = y.length) :
    (x.length : Int) * sqd x (y.map (· + b)) - sdif x (y.map (· + b)) * sdif x (y.map (· + b)) = (x.length : Int) * sqd x y - sdif x y * sdif x y := by
  rw [sqd_shift b x y h, sdif_shift b x y h]
  grind
theorem sdif_snoc (u v : Int) : ∀ x y : List Int, x.length = y.length → sdif (x ++ [u]) (y ++ [v]) = sdif x y + (u - v)
  | [], [], _ => by simp [sdif]
  | a :: x, b :: y, h => by
    have ih := sdif_snoc u v x y (by simpa using h)
    simp only [List.cons_append, sdif, ih]
    omega
theorem take_set_snoc (l : List Int) (i : Nat) (v : Int) (h : i < l.length) : (l.set i v).take (i + 1) = l.take i ++ [v] := by
  rw [List.take_succ_eq_append_getElem (by simpa using h), List.take_set_of_le (Nat.le_refl i), List.getElem_set_self]
theorem sqd_take_drop : ∀ (k : Nat) (x y : List Int), sqd (x.take k) (y.take k) + sqd (x.drop k) (y.drop k) = sqd x y
  | 0, x, y => by simp [sqd]
  | k + 1, [], y => by simp [sqd]
  | k + 1, a :: x, [] => by simp [sqd]
  | k + 1, a :: x, b :: y => by
    have ih := sqd_take_drop k x y
    simp only [List.take_succ_cons, List.drop_succ_cons, sqd]
    omega
theorem sub_take : ∀ (k : Nat) (x y : List Int), sub (x.take k) (y.take k) = (sub x y).take k
  | 0, x, y => by simp [sub]
  | k + 1, [], y => by simp [sub]
  | k + 1, a :: x, [] => by simp [sub]
  | k + 1, a :: x, b :: y => by simp only [List.take_succ_cons, sub, sub_take k x y]
theorem dot_take_le : ∀ (k : Nat) (u : List Int), dot (u.take k) (u.take k) ≤ dot u u
  | 0, u => by
    have : ∀ z : List Int, 0 ≤ dot z z := by
      intro z
      induction z with
      | nil => simp [dot]
      | cons c z ih => have := sqnn c; simp only [dot]; omega
    simpa [dot] using this u
  | k + 1, [] => by simp [dot]
  | k + 1, a :: u => by
    have ih := dot_take_le k u
    simp only [List.take_succ_cons, dot]
    omega
/-- The variance over the number of parts doesn't fall with more parts. -/
theorem cov_take (u : List Int) (k : Nat) (hk : k ≤ u.length) (h0 : 0 < u.length) : (u.length : Int) * cov (u.take k) (u.take k) ≤ (k : Int) * cov u u := by
  have h1 := dot_take_le k (cen u.length (sm u) u)
  have h2 : (cen u.length (sm u) u).take k = cen u.length (sm u) (u.take k) := by unfold cen; rw [List.map_take]
  rw [h2, cov_cen (u := u) (v := u) rfl, dot_cen _ _ _ _ _ rfl] at h1
  have hl : (u.take k).length = k := by rw [List.length_take]; omega
  have h4 := sqnn ((u.length : Int) * sm (u.take k) - (k : Int) * sm u)
  have h3 : (k : Int) * ((u.length : Int) * (u.length : Int) * dot (u.take k) (u.take k) - (u.length : Int) * sm u * sm (u.take k) - (u.length : Int) * sm u * sm (u.take k) + ((u.take k).length : Int) * (sm u * sm u)) ≤ (k : Int) * ((u.length : Int) * cov u u) := Int.mul_le_mul_of_nonneg_left h1 (by omega)
  have h5 : (u.length : Int) * ((u.length : Int) * cov (u.take k) (u.take k)) ≤ (u.length : Int) * ((k : Int) * cov u u) := by
    have e : cov (u.take k) (u.take k) = (k : Int) * dot (u.take k) (u.take k) - sm (u.take k) * sm (u.take k) := by unfold cov; rw [hl]
    rw [e]
    rw [hl] at h3
    grind
  exact Int.le_of_mul_le_mul_left h5 (by omega)
/-- The sum of the squares of m times the differences, less s. -/
def exs (m s : Int) : List Int → List Int → Int
  | a :: x, b :: y => (m * a - m * b - s) * (m * a - m * b - s) + exs m s x y
  | _, _ => 0
theorem exs_is (m s : Int) : ∀ x y : List Int, x.length = y.length → exs m s x y = m * m * sqd x y - 2 * m * s * sdif x y + (x.length : Int) * (s * s)
  | [], [], _ => by simp [exs, sqd, sdif]
  | a :: x, b :: y, h => by
    have ih := exs_is m s x y (by simpa using h)
    have e : ((x.length + 1 : Nat) : Int) = (x.length : Int) + 1 := by omega
    simp only [exs, sqd, sdif, List.length_cons, ih, e]
    grind
theorem exs_own (x y : List Int) (h : x.length = y.length) : exs x.length (sdif x y) x y = (x.length : Int) * ((x.length : Int) * sqd x y - sdif x y * sdif x y) := by
  rw [exs_is _ _ x y h]
  grind
/-- The distances of a window to all windows of its length of a list. -/
def prof (q l : List Int) (n : Nat) : List Int := (List.range n).map fun i => sqd q ((l.take (i + q.length)).drop i)
/-! ### bounds of sums of products -/
theorem mul_abs {u v A B : Int} (hu : -A ≤ u) (hu' : u ≤ A) (hv : -B ≤ v) (hv' : v ≤ B) (hA : 0 ≤ A) (hB : 0 ≤ B) : -(A * B) ≤ u * v ∧ u * v ≤ A * B := by
  have h1 := abs_sq hu hu'
  have h2 := abs_sq hv hv'
  have key : (u * v) * (u * v) ≤ (A * B) * (A * B) := by
    have := mul_le4 (sqnn u) h1 (sqnn v) h2
    grind
  have nn := Int.mul_nonneg hA hB
  constructor
  · have := le_of_sq (a := -(u * v)) nn (by rw [Int.neg_mul_neg]; exact key)
    omega
  · exact le_of_sq nn key
theorem sm_bound (M : Int) (hM : 0 ≤ M) : ∀ x : List Int, (∀ a ∈ x, -M ≤ a ∧ a ≤ M) → -(M * x.length) ≤ sm x ∧ sm x ≤ M * x.length
  | [], _ => by simp [sm]
  | a :: x, h => by
    have ih := sm_bound M hM x (fun c hc => h c (by simp [hc]))
    have h1 := h a (by simp)
    have e : ((x.length + 1 : Nat) : Int) = (x.length : Int) + 1 := by omega
    simp only [sm, List.length_cons, e, Int.mul_add, Int.mul_one]
    omega
theorem dot_bound (M : Int) (hM : 0 ≤ M) : ∀ x y : List Int, (∀ a ∈ x, -M ≤ a ∧ a ≤ M) → (∀ a ∈ y, -M ≤ a ∧ a ≤ M) → -(M * M * x.length) ≤ dot x y ∧ dot x y ≤ M * M * x.length
  | [], y, _, _ => by simp [dot]
  | a :: x, [], _, _ => by
    have := Int.mul_nonneg (Int.mul_nonneg hM hM) (show (0 : Int) ≤ ((a :: x).length : Int) by omega)
    simp only [dot]
    omega
  | a :: x, b :: y, hx, hy => by
    have ih := dot_bound M hM x y (fun c hc => hx c (by simp [hc])) (fun c hc => hy c (by simp [hc]))
    have h1 := hx a (by simp)
    have h2 := hy b (by simp)
    have h3 := mul_abs h1.1 h1.2 h2.1 h2.2 hM hM
    have e : ((x.length + 1 : Nat) : Int) = (x.length : Int) + 1 := by omega
    simp only [dot, List.length_cons, e, Int.mul_add, Int.mul_one]
    omega
theorem dot_nonneg : ∀ z : List Int, 0 ≤ dot z z
  | [] => by simp [dot]
  | c :: z => by have := sqnn c; have := dot_nonneg z; simp only [dot]; omega
theorem dot_comm : ∀ x y : List Int, dot x y = dot y x
  | [], [] => rfl
  | [], b :: y => rfl
  | a :: x, [] => rfl
  | a :: x, b :: y => by simp only [dot, dot_comm x y, Int.mul_comm a b]
theorem cov_comm {u v : List Int} (h : u.length = v.length) : cov u v = cov v u := by
  unfold cov
  rw [dot_comm, Int.mul_comm (sm u), h]
theorem cov_bound {x : List Int} (h : ∀ a ∈ x, -1000 ≤ a ∧ a ≤ 1000) (h32 : x.length ≤ 32) : cov x x ≤ 1024000000 := by
  have b1 := dot_bound 1000 (by omega) x x h h
  have b2 := sqnn (sm x)
  have b3 := mul_le4 (show (0 : Int) ≤ x.length by omega) (show (x.length : Int) ≤ 32 by omega) (dot_nonneg x) (show dot x x ≤ 32000000 by omega)
  unfold cov
  omega
theorem sm_cen (m s : Int) : ∀ x : List Int, sm (cen m s x) = m * sm x - (x.length : Int) * s
  | [] => by simp [cen, sm]
  | a :: x => by
    have ih := sm_cen m s x
    have e : ((x.length + 1 : Nat) : Int) = (x.length : Int) + 1 := by omega
    simp only [cen, List.map_cons, sm, List.length_cons] at ih ⊢
    rw [ih, e]
    grind
end Go.Proofs.Ytodipcfbgnljeaa.Base
