/- This file proves plain laws on edit distances of lists of numbers: alignments, the triangle, reversal, shifts, bounds. -/
namespace Go.Proofs.Ytmmmapkobnepcaa.MathEd
/-- How far two numbers are apart. -/
def ab (a b : Int) : Int := if a < b then b - a else a - b
theorem ab_nn (a b : Int) : 0 ≤ ab a b := by unfold ab; split <;> omega
theorem ab_self (a : Int) : ab a a = 0 := by unfold ab; split <;> omega
theorem ab_comm (a b : Int) : ab a b = ab b a := by unfold ab; split <;> split <;> omega
theorem ab_tri (a b c : Int) : ab a c ≤ ab a b + ab b c := by unfold ab; split <;> split <;> split <;> omega
theorem ab_shift (a b k : Int) : ab (a + k) (b + k) = ab a b := by unfold ab; split <;> split <;> omega
theorem ab_le {a b A B : Int} (h1 : -A ≤ a) (h2 : a ≤ A) (h3 : -B ≤ b) (h4 : b ≤ B) : ab a b ≤ A + B := by unfold ab; split <;> omega
/-- The edit distance. -/
def ed (g : Int) : List Int → List Int → Int
  | [], [] => 0
  | a :: x, [] => ab a g + ed g x []
  | [], b :: y => ab b g + ed g [] y
  | a :: x, b :: y => min (ab a b + ed g x y) (min (ab a g + ed g x (b :: y)) (ab b g + ed g (a :: x) y))
termination_by x y => x.length + y.length
/-- Alignments with their costs: 1 takes a sample of each, 2 one of the first list, 3 one of the second. -/
inductive Al (g : Int) : List Int → List Int → List Int → Int → Prop
  | nil : Al g [] [] [] 0
  | both {x y s c} (a b) : Al g x y s c → Al g (a :: x) (b :: y) (1 :: s) (ab a b + c)
  | left {x y s c} (a) : Al g x y s c → Al g (a :: x) y (2 :: s) (ab a g + c)
  | right {x y s c} (b) : Al g x y s c → Al g x (b :: y) (3 :: s) (ab b g + c)
theorem ed_nil (g : Int) : ed g [] [] = 0 := by rw [ed]
theorem ed_xn (g a : Int) (x : List Int) : ed g (a :: x) [] = ab a g + ed g x [] := by rw [ed]
theorem ed_ny (g b : Int) (y : List Int) : ed g [] (b :: y) = ab b g + ed g [] y := by rw [ed]
theorem ed_xy (g a b : Int) (x y : List Int) : ed g (a :: x) (b :: y) = min (ab a b + ed g x y) (min (ab a g + ed g x (b :: y)) (ab b g + ed g (a :: x) y)) := by rw [ed]
theorem ed_left (g a : Int) (x y : List Int) : ed g (a :: x) y ≤ ab a g + ed g x y := by
  cases y with
  | nil => rw [ed_xn]; omega
  | cons b y => rw [ed_xy]; omega
theorem ed_right (g b : Int) (x y : List Int) : ed g x (b :: y) ≤ ab b g + ed g x y := by
  cases x with
  | nil => rw [ed_ny]; omega
  | cons a x => rw [ed_xy]; omega
theorem ed_both (g a b : Int) (x y : List Int) : ed g (a :: x) (b :: y) ≤ ab a b + ed g x y := by rw [ed_xy]; omega
theorem ed_le {g : Int} {x y s : List Int} {c : Int} (h : Al g x y s c) : ed g x y ≤ c := by
  induction h with
  | nil => rw [ed_nil]; omega
  | both a b h ih => exact Int.le_trans (ed_both g a b _ _) (by omega)
  | left a h ih => exact Int.le_trans (ed_left g a _ _) (by omega)
  | right b h ih => exact Int.le_trans (ed_right g b _ _) (by omega)
theorem ed_at (g : Int) (x y : List Int) : ∃ s, Al g x y s (ed g x y) := by
  induction x, y using ed.induct with
  | case1 => exact ⟨[], by rw [ed_nil]; exact .nil⟩
  | case2 a x ih => obtain ⟨s, h⟩ := ih; exact ⟨2 :: s, by rw [ed_xn]; exact .left a h⟩
  | case3 b y ih => obtain ⟨s, h⟩ := ih; exact ⟨3 :: s, by rw [ed_ny]; exact .right b h⟩
  | case4 a x b y ih1 ih2 ih3 =>
    obtain ⟨s1, h1⟩ := ih1
    obtain ⟨s2, h2⟩ := ih2
    obtain ⟨s3, h3⟩ := ih3
    rw [ed_xy]
    by_cases c1 : ab a b + ed g x y ≤ min (ab a g + ed g x (b :: y)) (ab b g + ed g (a :: x) y)
    · rw [Int.min_eq_left c1]
      exact ⟨1 :: s1, .both a b h1⟩
    · rw [Int.min_eq_right (by omega)]
      by_cases c2 : ab a g + ed g x (b :: y) ≤ ab b g + ed g (a :: x) y
      · rw [Int.min_eq_left c2]
        exact ⟨2 :: s2, .left a h2⟩
      · rw [Int.min_eq_right (by omega)]
        exact ⟨3 :: s3, .right b h3⟩
theorem al_nn {g : Int} {x y s : List Int} {c : Int} (h : Al g x y s c) : 0 ≤ c := by
  induction h with
  | nil => omega
  | both a b h ih => have := ab_nn a b; omega
  | left a h ih => have := ab_nn a g; omega
  | right b h ih => have := ab_nn b g; omega
theorem ed_nn (g : Int) (x y : List Int) : 0 ≤ ed g x y := by
  obtain ⟨s, h⟩ := ed_at g x y
  exact al_nn h
theorem al_both {g a b : Int} {x y s : List Int} {c : Int} (h : Al g x y s c) : Al g (x ++ [a]) (y ++ [b]) (s ++ [1]) (c + ab a b) := by
  induction h with
  | nil => have := Al.both (g := g) a b .nil; rwa [Int.add_comm] at this
  | both a' b' h ih => have := Al.both a' b' ih; rwa [← Int.add_assoc] at this
  | left a' h ih => have := Al.left a' ih; rwa [← Int.add_assoc] at this
  | right b' h ih => have := Al.right b' ih; rwa [← Int.add_assoc] at this
theorem al_left {g a : Int} {x y s : List Int} {c : Int} (h : Al g x y s c) : Al g (x ++ [a]) y (s ++ [2]) (c + ab a g) := by
  induction h with
  | nil => have := Al.left (g := g) a .nil; rwa [Int.add_comm] at this
  | both a' b' h ih => have := Al.both a' b' ih; rwa [← Int.add_assoc] at this
  | left a' h ih => have := Al.left a' ih; rwa [← Int.add_assoc] at this
  | right b' h ih => have := Al.right b' ih; rwa [← Int.add_assoc] at this
theorem al_right {g b : Int} {x y s : List Int} {c : Int} (h : Al g x y s c) : Al g x (y ++ [b]) (s ++ [3]) (c + ab b g) := by
  induction h with
  | nil => have := Al.right (g := g) b .nil; rwa [Int.add_comm] at this
  | both a' b' h ih => have := Al.both a' b' ih; rwa [← Int.add_assoc] at this
  | left a' h ih => have := Al.left a' ih; rwa [← Int.add_assoc] at this
  | right b' h ih => have := Al.right b' ih; rwa [← Int.add_assoc] at this
theorem al_rev {g : Int} {x y s : List Int} {c : Int} (h : Al g x y s c) : Al g x.reverse y.reverse s.reverse c := by
  induction h with
  | nil => exact .nil
  | both a b h ih => rw [List.reverse_cons, List.reverse_cons, List.reverse_cons, Int.add_comm]; exact al_both ih
  | left a h ih => rw [List.reverse_cons, List.reverse_cons, Int.add_comm]; exact al_left ih
  | right b h ih => rw [List.reverse_cons, List.reverse_cons, Int.add_comm]; exact al_right ih
theorem ed_rev (g : Int) (x y : List Int) : ed g x.reverse y.reverse = ed g x y := by
  obtain ⟨s, h⟩ := ed_at g x y
  obtain ⟨t, k⟩ := ed_at g x.reverse y.reverse
  have h1 := ed_le (al_rev h)
  have h2 := ed_le (al_rev k)
  rw [List.reverse_reverse, List.reverse_reverse] at h2
  omega
theorem al_swap {g : Int} {x y s : List Int} {c : Int} (h : Al g x y s c) : ∃ t, Al g y x t c := by
  induction h with
  | nil => exact ⟨[], .nil⟩
  | both a b h ih => obtain ⟨t, k⟩ := ih; rw [ab_comm a b]; exact ⟨_, .both b a k⟩
  | left a h ih => obtain ⟨t, k⟩ := ih; exact ⟨_, .right a k⟩
  | right b h ih => obtain ⟨t, k⟩ := ih; exact ⟨_, .left b k⟩
theorem ed_comm (g : Int) (x y : List Int) : ed g x y = ed g y x := by
  obtain ⟨s, h⟩ := ed_at g x y
  obtain ⟨t, k⟩ := ed_at g y x
  obtain ⟨_, h'⟩ := al_swap h
  obtain ⟨_, k'⟩ := al_swap k
  have := ed_le h'
  have := ed_le k'
  omega
theorem al_self (g : Int) : ∀ x : List Int, ∃ s, Al g x x s 0
  | [] => ⟨[], .nil⟩
  | a :: x => by
    obtain ⟨s, h⟩ := al_self g x
    have := Al.both a a h
    rw [ab_self] at this
    exact ⟨_, this⟩
theorem ed_self (g : Int) (x : List Int) : ed g x x = 0 := by
  obtain ⟨s, h⟩ := al_self g x
  have := ed_le h
  have := ed_nn g x x
  omega
theorem al_tri (g : Int) : ∀ (n : Nat) (x y z s t : List Int) (c d : Int), s.length + t.length ≤ n → Al g x y s c → Al g y z t d → ed g x z ≤ c + d := by
  intro n
  induction n with
  | zero =>
    intro x y z s t c d hn h k
    cases h with
    | nil =>
      have := ed_le k
      omega
    | both a b h => simp at hn
    | left a h => simp at hn
    | right b h => simp at hn
  | succ n ih =>
    intro x y z s t c d hn h k
    cases h with
    | nil =>
      have := ed_le k
      omega
    | left a h =>
      rw [List.length_cons] at hn
      have := ih _ _ _ _ _ _ _ (by omega) h k
      exact Int.le_trans (ed_left g a _ z) (by omega)
    | both a b h =>
      cases k with
      | both _ e k =>
        rw [List.length_cons, List.length_cons] at hn
        have := ih _ _ _ _ _ _ _ (by omega) h k
        have := ab_tri a b e
        exact Int.le_trans (ed_both g a e _ _) (by omega)
      | left _ k =>
        rw [List.length_cons, List.length_cons] at hn
        have := ih _ _ _ _ _ _ _ (by omega) h k
        have := ab_tri a b g
        exact Int.le_trans (ed_left g a _ z) (by omega)
      | right e k =>
        rw [List.length_cons, List.length_cons] at hn
        have := ih _ _ _ _ _ _ _ (by rw [List.length_cons]; omega) (.both a b h) k
        exact Int.le_trans (ed_right g e _ _) (by omega)
    | right b h =>
      cases k with
      | both _ e k =>
        rw [List.length_cons, List.length_cons] at hn
        have := ih _ _ _ _ _ _ _ (by omega) h k
        have := ab_tri e b g
        have := ab_comm e b
        exact Int.le_trans (ed_right g e _ _) (by omega)
      | left _ k =>
        rw [List.length_cons, List.length_cons] at hn
        have := ih _ _ _ _ _ _ _ (by omega) h k
        have := ab_nn b g
        omega
      | right e k =>
        rw [List.length_cons, List.length_cons] at hn
        have := ih _ _ _ _ _ _ _ (by rw [List.length_cons]; omega) (.right b h) k
        exact Int.le_trans (ed_right g e _ _) (by omega)
theorem ed_tri (g : Int) (x y z : List Int) : ed g x z ≤ ed g x y + ed g y z := by
  obtain ⟨s, h⟩ := ed_at g x y
  obtain ⟨t, k⟩ := ed_at g y z
  exact al_tri g _ x y z s t _ _ (Nat.le_refl _) h k
theorem al_shift {g : Int} (k : Int) {x y s : List Int} {c : Int} (h : Al g x y s c) : Al (g + k) (x.map (· + k)) (y.map (· + k)) s c := by
  induction h with
  | nil => exact .nil
  | both a b h ih => have := Al.both (a + k) (b + k) ih; rwa [ab_shift] at this
  | left a h ih => have := Al.left (a + k) ih; rwa [ab_shift] at this
  | right b h ih => have := Al.right (b + k) ih; rwa [ab_shift] at this
theorem map_back (k : Int) (x : List Int) : (x.map (· + k)).map (· + -k) = x := by
  rw [List.map_map]
  conv => rhs; rw [← List.map_id x]
  exact List.map_congr_left fun a _ => by simp; omega
theorem ed_shift (g k : Int) (x y : List Int) : ed (g + k) (x.map (· + k)) (y.map (· + k)) = ed g x y := by
  obtain ⟨s, h⟩ := ed_at g x y
  obtain ⟨t, h'⟩ := ed_at (g + k) (x.map (· + k)) (y.map (· + k))
  have h1 := ed_le (al_shift k h)
  have h2 := ed_le (al_shift (-k) h')
  rw [map_back, map_back, show g + k + -k = g by omega] at h2
  omega
theorem al_put (g : Int) : ∀ p q : List Int, ∃ s, Al g (p ++ g :: q) (p ++ q) s 0
  | [], q => by
    obtain ⟨s, h⟩ := al_self g q
    have := Al.left g h
    rw [ab_self] at this
    exact ⟨_, this⟩
  | a :: p, q => by
    obtain ⟨s, h⟩ := al_put g p q
    have := Al.both a a h
    rw [ab_self] at this
    exact ⟨_, this⟩
theorem ed_put (g : Int) (p q y : List Int) : ed g (p ++ g :: q) y = ed g (p ++ q) y := by
  obtain ⟨s, h⟩ := al_put g p q
  have h1 := ed_le h
  have h2 := ed_tri g (p ++ g :: q) (p ++ q) y
  have h3 := ed_tri g (p ++ q) (p ++ g :: q) y
  rw [ed_comm g (p ++ q) (p ++ g :: q)] at h3
  omega
/-- The sum of what is above the gap. -/
def over (g : Int) : List Int → Int
  | [] => 0
  | a :: x => (a - g) + over g x
/-- The sum of the differences' amounts. -/
def sad : List Int → List Int → Int
  | a :: x, b :: y => ab a b + sad x y
  | _, _ => 0
theorem al_over {g : Int} {x y s : List Int} {c : Int} (h : Al g x y s c) : over g x - over g y ≤ c ∧ over g y - over g x ≤ c := by
  induction h with
  | nil => simp [over]
  | both a b h ih => simp only [over]; have : a - b ≤ ab a b ∧ b - a ≤ ab a b := by unfold ab; split <;> omega
                     omega
  | left a h ih => simp only [over]; have : a - g ≤ ab a g ∧ g - a ≤ ab a g := by unfold ab; split <;> omega
                   omega
  | right b h ih => simp only [over]; have : b - g ≤ ab b g ∧ g - b ≤ ab b g := by unfold ab; split <;> omega
                    omega
theorem ed_over (g : Int) (x y : List Int) : ab (over g x) (over g y) ≤ ed g x y := by
  obtain ⟨s, h⟩ := ed_at g x y
  have := al_over h
  unfold ab
  split <;> omega
theorem ed_sad (g : Int) : ∀ x y : List Int, x.length = y.length → ed g x y ≤ sad x y
  | [], [], _ => by rw [ed_nil]; simp [sad]
  | a :: x, b :: y, h => by
    have := ed_sad g x y (by simpa using h)
    have := ed_both g a b x y
    simp only [sad]
    omega
/-- The bound: no distance is greater than the whole of what can be left out. -/
theorem ed_bound {g M : Int} (hg : -M ≤ g ∧ g ≤ M) : ∀ x y : List Int, (∀ v ∈ x, -M ≤ v ∧ v ≤ M) → (∀ v ∈ y, -M ≤ v ∧ v ≤ M) → ed g x y ≤ 2 * M * (x.length + y.length : Nat)
  | [], [], _, _ => by rw [ed_nil]; simp
  | [], b :: y, hx, hy => by
    have h1 := ed_bound hg [] y hx (fun v hv => hy v (List.mem_cons_of_mem _ hv))
    have h2 := hy b (List.mem_cons_self ..)
    have h3 := ab_le h2.1 h2.2 hg.1 hg.2
    rw [ed_ny]
    simp only [List.length_cons, List.length_nil, Nat.zero_add] at h1 ⊢
    rw [Int.natCast_add, Int.mul_add]
    omega
  | a :: x, y, hx, hy => by
    have h1 := ed_bound hg x y (fun v hv => hx v (List.mem_cons_of_mem _ hv)) hy
    have h2 := hx a (List.mem_cons_self ..)
    have h3 := ab_le h2.1 h2.2 hg.1 hg.2
    have h4 := ed_left g a x y
    rw [List.length_cons, Nat.add_right_comm, Int.natCast_add, Int.mul_add]
    omega
/-! ### the table of all beginnings -/
/-- The least cost of the first i samples of x and the first j of y. -/
def dd (g : Int) (x y : List Int) (i j : Nat) : Int := ed g (x.take i).reverse (y.take j).reverse
theorem take_rev {x : List Int} {i : Nat} (h : i < x.length) : (x.take (i + 1)).reverse = x[i] :: (x.take i).reverse := by
  rw [List.take_succ_eq_append_getElem h, List.reverse_append]
  rfl
theorem dd_zero (g : Int) (x y : List Int) : dd g x y 0 0 = 0 := by
  unfold dd
  rw [List.take_zero, List.take_zero]
  exact ed_nil g
theorem dd_left {g : Int} {x y : List Int} {i : Nat} (h : i < x.length) : dd g x y (i + 1) 0 = ab x[i] g + dd g x y i 0 := by
  unfold dd
  rw [take_rev h, List.take_zero]
  exact ed_xn g _ _
theorem dd_right {g : Int} {x y : List Int} {j : Nat} (h : j < y.length) : dd g x y 0 (j + 1) = ab y[j] g + dd g x y 0 j := by
  unfold dd
  rw [take_rev h, List.take_zero]
  exact ed_ny g _ _
theorem dd_both {g : Int} {x y : List Int} {i j : Nat} (h : i < x.length) (k : j < y.length) :
    dd g x y (i + 1) (j + 1) = min (ab x[i] y[j] + dd g x y i j) (min (ab x[i] g + dd g x y i (j + 1)) (ab y[j] g + dd g x y (i + 1) j)) := by
  unfold dd
  rw [take_rev h, take_rev k]
  exact ed_xy g _ _ _ _
theorem dd_all (g : Int) (x y : List Int) : dd g x y x.length y.length = ed g x y := by
  unfold dd
  rw [List.take_length, List.take_length]
  exact ed_rev g x y
theorem dd_nn (g : Int) (x y : List Int) (i j : Nat) : 0 ≤ dd g x y i j := ed_nn _ _ _
theorem dd_bound {g M : Int} (hg : -M ≤ g ∧ g ≤ M) {x y : List Int} (hx : ∀ v ∈ x, -M ≤ v ∧ v ≤ M) (hy : ∀ v ∈ y, -M ≤ v ∧ v ≤ M) (hM : 0 ≤ M) (h1 : x.length ≤ 32) (h2 : y.length ≤ 32) (i j : Nat) : dd g x y i j ≤ 128 * M := by
  have h := ed_bound hg (x.take i).reverse (y.take j).reverse (fun v hv => hx v (List.mem_of_mem_take (List.mem_reverse.1 hv))) (fun v hv => hy v (List.mem_of_mem_take (List.mem_reverse.1 hv)))
  have l1 : (x.take i).reverse.length ≤ 32 := by rw [List.length_reverse, List.length_take]; omega
  have l2 : (y.take j).reverse.length ≤ 32 := by rw [List.length_reverse, List.length_take]; omega
  unfold dd
  refine Int.le_trans h ?_
  have l3 : (((x.take i).reverse.length + (y.take j).reverse.length : Nat) : Int) ≤ 64 := by omega
  have := Int.mul_le_mul_of_nonneg_left l3 (show 0 ≤ 2 * M by omega)
  omega
end Go.Proofs.Ytmmmapkobnepcaa.MathEd
