/- This file proves plain laws on the table of the cheapest paths within a band: what a cell is, bounds, sums of tables, one table against another. -/
set_option linter.unusedVariables false
set_option linter.unusedSimpArgs false
namespace Go.Proofs.Ytodipcfbgnljeaa.MathWp
def near (b : Int) (i j : Nat) : Prop := (i : Int) - (j : Int) ≤ b ∧ (j : Int) - (i : Int) ≤ b
instance (b : Int) (i j : Nat) : Decidable (near b i j) := by unfold near; infer_instance
def cel (b : Int) (c : Nat → Int) (i j : Nat) (best : Int) : Int := if near b i j then min 4611686018427387904 (best + c j) else 4611686018427387904
/-- A row of the table, from the row before. -/
def rowF (b : Int) (c : Nat → Int) (p : Nat → Int) (i : Nat) : Nat → Int
  | 0 => cel b c i 0 (if i = 0 then 0 else min 4611686018427387904 (min (p 0) (p 0)))
  | j + 1 => cel b c i (j + 1) (if i = 0 then min 4611686018427387904 (rowF b c p i j) else min (min 4611686018427387904 (rowF b c p i j)) (min (p (j + 1)) (p j)))
def tab (b : Int) (c : Nat → Nat → Int) : Nat → Nat → Int
  | 0 => rowF b (c 0) (fun _ => 0) 0
  | i + 1 => rowF b (c (i + 1)) (tab b c i) (i + 1)
/-- The least cost of what may come before a cell. -/
def bst (b : Int) (c : Nat → Nat → Int) : Nat → Nat → Int
  | 0, 0 => 0
  | 0, j + 1 => min 4611686018427387904 (tab b c 0 j)
  | i + 1, 0 => min 4611686018427387904 (min (tab b c i 0) (tab b c i 0))
  | i + 1, j + 1 => min (min 4611686018427387904 (tab b c (i + 1) j)) (min (tab b c i (j + 1)) (tab b c i j))
theorem tab_is (b : Int) (c : Nat → Nat → Int) (i j : Nat) : tab b c i j = if near b i j then min 4611686018427387904 (bst b c i j + c i j) else 4611686018427387904 := by
  cases i <;> cases j <;> rfl
theorem bst_is (b : Int) (c : Nat → Nat → Int) (i j : Nat) (t0 t1 v : Int) (h0 : t0 = if i = 0 ∧ j = 0 then 0 else 4611686018427387904) (h1 : t1 = if j = 0 then t0 else min t0 (tab b c i (j - 1))) (h2 : v = if i = 0 then t1 else min t1 (min (tab b c (i - 1) j) (tab b c (i - 1) (j - 1)))) : v = bst b c i j := by
  subst h0
  subst h1
  subst h2
  cases i <;> cases j <;> simp [bst]
/-- The costs that count are those inside. -/
theorem tab_cong {b : Int} {c c' : Nat → Nat → Int} : ∀ (i j : Nat), (∀ k l, k ≤ i → l ≤ j → c k l = c' k l) → tab b c i j = tab b c' i j := by
  intro i
  induction i with
  | zero =>
    intro j
    induction j with
    | zero => intro h; rw [tab_is, tab_is, h 0 0 (Nat.le_refl _) (Nat.le_refl _)]; rfl
    | succ j ih =>
      intro h
      rw [tab_is, tab_is, h 0 (j + 1) (Nat.le_refl _) (Nat.le_refl _)]
      simp only [bst, ih (fun k l hk hl => h k l hk (by omega))]
  | succ i ihi =>
    intro j
    induction j with
    | zero =>
      intro h
      rw [tab_is, tab_is, h (i + 1) 0 (Nat.le_refl _) (Nat.le_refl _)]
      simp only [bst, ihi 0 (fun k l hk hl => h k l (by omega) hl)]
    | succ j ih =>
      intro h
      rw [tab_is, tab_is, h (i + 1) (j + 1) (Nat.le_refl _) (Nat.le_refl _)]
      simp only [bst, ih (fun k l hk hl => h k l hk (by omega)), ihi (j + 1) (fun k l hk hl => h k l (by omega) hl), ihi j (fun k l hk hl => h k l (by omega) (by omega))]
theorem tab_le_inf (b : Int) (c : Nat → Nat → Int) (i j : Nat) : tab b c i j ≤ 4611686018427387904 := by rw [tab_is]; split <;> omega
theorem tab_nn {b : Int} {c : Nat → Nat → Int} (hc : ∀ i j, 0 ≤ c i j) : ∀ i j, 0 ≤ tab b c i j := by
  intro i
  induction i with
  | zero =>
    intro j
    induction j with
    | zero => have := hc 0 0; rw [tab_is]; simp only [bst]; split <;> omega
    | succ j ih => have := hc 0 (j + 1); rw [tab_is]; simp only [bst]; split <;> omega
  | succ i ihi =>
    intro j
    induction j with
    | zero => have := hc (i + 1) 0; have := ihi 0; rw [tab_is]; simp only [bst]; split <;> omega
    | succ j ih => have := hc (i + 1) (j + 1); have := ihi j; have := ihi (j + 1); rw [tab_is]; simp only [bst]; split <;> omega
theorem bst_nn {b : Int} {c : Nat → Nat → Int} (hc : ∀ i j, 0 ≤ c i j) (i j : Nat) : 0 ≤ bst b c i j ∧ bst b c i j ≤ 4611686018427387904 := by
  cases i with
  | zero =>
    cases j with
    | zero => simp [bst]
    | succ j => have := tab_nn (b := b) hc 0 j; simp only [bst]; omega
  | succ i =>
    cases j with
    | zero => have := tab_nn (b := b) hc i 0; simp only [bst]; omega
    | succ j => have := tab_nn (b := b) hc i j; have := tab_nn (b := b) hc i (j + 1); have := tab_nn (b := b) hc (i + 1) j; simp only [bst]; omega
/-- Greater costs, a greater table. -/
theorem tab_mono {b : Int} {c c' : Nat → Nat → Int} (h : ∀ i j, c i j ≤ c' i j) : ∀ i j, tab b c i j ≤ tab b c' i j := by
  intro i
  induction i with
  | zero =>
    intro j
    induction j with
    | zero => have := h 0 0; rw [tab_is, tab_is]; simp only [bst]; split <;> omega
    | succ j ih => have := h 0 (j + 1); rw [tab_is, tab_is]; simp only [bst]; split <;> omega
  | succ i ihi =>
    intro j
    induction j with
    | zero => have := h (i + 1) 0; have := ihi 0; rw [tab_is, tab_is]; simp only [bst]; split <;> omega
    | succ j ih => have := h (i + 1) (j + 1); have := ihi j; have := ihi (j + 1); rw [tab_is, tab_is]; simp only [bst]; split <;> omega
/-- A cell within the band costs no more than the way to it that goes straight. -/
theorem tab_bound {b M : Int} {c : Nat → Nat → Int} (hb : 0 ≤ b) (hM : 0 ≤ M) (h : ∀ i j, c i j ≤ M) : ∀ (n i j : Nat), i + j = n → near b i j → tab b c i j ≤ M * ((n : Int) + 1) := by
  intro n
  induction n using Nat.strongRecOn with
  | _ n ih =>
    intro i j hn hnear
    have hc := h i j
    rw [tab_is, if_pos hnear]
    have e1 : M * ((n : Int) + 1) = M * (n : Int) + M := by rw [Int.mul_add, Int.mul_one]
    cases i with
    | zero =>
      cases j with
      | zero => subst hn; simp only [bst]; simp; omega
      | succ j =>
        have := ih (0 + j) (by omega) 0 j rfl (by unfold near at *; omega)
        have e2 : M * (((0 + j : Nat) : Int) + 1) = M * (n : Int) := by congr 1; omega
        simp only [bst]
        omega
    | succ i =>
      cases j with
      | zero =>
        have := ih (i + 0) (by omega) i 0 rfl (by unfold near at *; omega)
        have e2 : M * (((i + 0 : Nat) : Int) + 1) = M * (n : Int) := by congr 1; omega
        simp only [bst]
        omega
      | succ j =>
        have := ih (i + j) (by omega) i j rfl (by unfold near at *; omega)
        have e2 : M * (((i + j : Nat) : Int) + 1) ≤ M * (n : Int) := Int.mul_le_mul_of_nonneg_left (by omega) hM
        simp only [bst]
        omega
set_option maxHeartbeats 4000000 in
/-- The table of a sum is at least the sum of the tables. -/
theorem tab_add {b : Int} {c c' : Nat → Nat → Int} (hc : ∀ i j, 0 ≤ c i j) (hc' : ∀ i j, 0 ≤ c' i j) : ∀ i j, tab b (fun i j => c i j + c' i j) i j < 4611686018427387904 → tab b c i j + tab b c' i j ≤ tab b (fun i j => c i j + c' i j) i j := by
  intro i
  induction i with
  | zero =>
    intro j
    induction j with
    | zero => have := hc 0 0; have := hc' 0 0; rw [tab_is, tab_is, tab_is]; simp only [bst]; split <;> omega
    | succ j ih =>
      have := hc 0 (j + 1); have := hc' 0 (j + 1)
      rw [tab_is, tab_is, tab_is]; simp only [bst]; split <;> omega
  | succ i ihi =>
    intro j
    induction j with
    | zero => have := hc (i + 1) 0; have := hc' (i + 1) 0; have := ihi 0; rw [tab_is, tab_is, tab_is]; simp only [bst]; split <;> omega
    | succ j ih => have := hc (i + 1) (j + 1); have := hc' (i + 1) (j + 1); have := ihi j; have := ihi (j + 1); rw [tab_is, tab_is, tab_is]; simp only [bst]; split <;> omega
/-- No more than straight ahead, for as many places. -/
theorem tab_diag {b : Int} {c : Nat → Nat → Int} (hb : 0 ≤ b) : ∀ i, tab b c i i ≤ ((List.range (i + 1)).map fun k => c k k).sum := by
  intro i
  induction i with
  | zero => rw [tab_is]; simp only [bst, Nat.zero_add, List.range_one, List.map_cons, List.map_nil, List.sum_cons, List.sum_nil]; rw [if_pos (by unfold near; omega)]; omega
  | succ i ih =>
    rw [tab_is, if_pos (by unfold near; omega), List.range_succ, List.map_append, List.sum_append]
    simp only [bst, List.map_cons, List.map_nil, List.sum_cons, List.sum_nil]
    omega
end Go.Proofs.Ytodipcfbgnljeaa.MathWp
