/- This file proves that two neighbouring cuts joined are the cut of both, and that a series is the join of its parts with a gap between them. -/
import Derived.Test.YtklghejinlhjpaaPSeriesPartsx5
import Derived.Test.YtklghejinlhjpaaBase
set_option linter.unusedVariables false
namespace Go.Proofs.Ytklghejinlhjpaa.Pure
open Go.RowKit Go.Proofs.Ytklghejinlhjpaa.PSeriesParts Go.Proofs.YtklghejinlhjpaaW.PrintWords Go.Proofs.YtklghejinlhjpaaW.PrintLast Go.Proofs.YtklghejinlhjpaaW.PrintMore Go.Proofs.Ytklghejinlhjpaa.Base
theorem keep_Ints_l0 (x y : List Int) (hl : x.length = y.length) (hn : x.length ≤ 1000000000) (d : Nat) : ∀ i : Nat, i + d = x.length → Ev (fun k => shapesearchkeep_Ints.l0 k x y (x.length : Int) (i : Int)) (decide (x.drop i = y.drop i)) := by
  induction d with
  | zero =>
    intro i hi
    refine Ev.step (fun k => by rw [shapesearchkeep_Ints.l0]) (Ev.neg (by omega) ?_)
    rw [List.drop_eq_nil_of_le (by omega), List.drop_eq_nil_of_le (by omega)]
    exact Ev.now _
  | succ d ih =>
    intro i hi
    have hlt : i < x.length := by omega
    have hlt' : i < y.length := by omega
    refine Ev.step (fun k => by rw [shapesearchkeep_Ints.l0]) (Ev.pos (by omega) (Ev.pos (by omega) (Ev.pos (by omega) (Ev.pos (by omega) ?_))))
    have e : wrap64 ((i : Int) + 1) = ((i + 1 : Nat) : Int) := by rw [w64 (by omega) (by omega)]; omega
    rw [rd_nat x i hlt, rd_nat y i hlt', List.drop_eq_getElem_cons hlt, List.drop_eq_getElem_cons hlt', e]
    by_cases h : x[i] = y[i]
    · refine Ev.pos h ?_
      have : decide (x[i] :: x.drop (i + 1) = y[i] :: y.drop (i + 1)) = decide (x.drop (i + 1) = y.drop (i + 1)) := by rw [h, decide_eq_decide, List.cons.injEq]; exact ⟨fun e => e.2, fun e => ⟨rfl, e⟩⟩
      rw [this]
      exact ih (i + 1) (by omega)
    · rw [decide_eq_false (fun e' => h (List.cons.inj e').1)]
      exact Ev.neg h (Ev.now _)
theorem keep_Ints_is (x y : List Int) (hn : x.length ≤ 1000000000) : Ev (fun k => shapesearchkeep_Ints.f k x y) (decide (x = y)) := by
  unfold shapesearchkeep_Ints.f
  by_cases h : x.length = y.length
  · have := keep_Ints_l0 x y h hn x.length 0 (by omega)
    simp only [List.drop_zero] at this
    exact Ev.pos (by omega) this
  · rw [decide_eq_false (fun e => h (by rw [e]))]
    exact Ev.neg (by omega) (Ev.now _)
/-! ### numbers out of a list -/
theorem keep_New (l0 : List Int) (h : ∀ x ∈ l0, (Lit.int .i64 x).wf = true) (hl : l0.length ≤ maxLen) : EvP (fun _ => shapesearchkeep_New.f l0) (fun r => Src r.1 r.2) := by
  have e : mn (l0.length : Int) 2000 = ((min l0.length 2000 : Nat) : Int) := by unfold mn; split <;> omega
  unfold shapesearchkeep_New.f
  rw [e]
  refine EvP.pos (by omega) (EvP.pos (by omega) (EvP.ret ?_))
  refine ⟨Int.le_refl _, by omega, by rw [List.length_take]; omega, fun x hx => b_i64 (h x (List.mem_of_mem_take hx))⟩
theorem keep_Raw (s : List Int) (a : Int) (h : Src s a) : EvP (fun _ => shapesearchkeep_Src_Raw.f s a) (fun r => Src s r.2 ∧ -9223372036854775808 ≤ r.1 ∧ r.1 ≤ 9223372036854775807) := by
  obtain ⟨h0, h1, h2, h3⟩ := h
  unfold shapesearchkeep_Src_Raw.f
  refine EvP.ite (fun hc => EvP.ret ⟨⟨h0, h1, h2, h3⟩, by omega, by omega⟩) (fun hc => ?_)
  have hw : wrap64 (a + 1) = a + 1 := w64 (by omega) (by omega)
  have hw2 : wrap64 (a + 1 - 1) = a := by rw [w64 (by omega) (by omega)]; omega
  rw [hw, hw2]
  have hm := h3 _ (rd_mem s a h0 (by omega))
  exact EvP.pos h0 (EvP.pos (by omega) (EvP.ret ⟨⟨by omega, by omega, h2, h3⟩, hm⟩))
theorem keep_Mod (a n : Int) (ha : -9223372036854775808 ≤ a) (ha' : a ≤ 9223372036854775807) (hn : 1 ≤ n) (hn' : n ≤ 9223372036854775807) : EvP (fun _ => shapesearchkeep_Mod.f a n) (fun t => 0 ≤ t ∧ t < n) := by
  have h1 := Int.tmod_lt_of_pos a (show 0 < n by omega)
  have h2 := Int.lt_tmod_of_pos a (show 0 < n by omega)
  unfold shapesearchkeep_Mod.f
  refine EvP.neg (by omega) (EvP.neg (by omega) (EvP.ite (fun hc => EvP.ret ?_) (fun hc => EvP.ret ?_)))
  · rw [w64 (by omega) (by omega)]
    omega
  · omega
theorem keep_N (s : List Int) (a n : Int) (h : Src s a) (hn : 1 ≤ n) (hn' : n ≤ 9223372036854775807) : EvP (fun _ => shapesearchkeep_Src_N.f s a n) (fun r => Src s r.2 ∧ 0 ≤ r.1 ∧ r.1 < n) := by
  unfold shapesearchkeep_Src_N.f
  refine EvP.bind (keep_Raw s a h) (fun x hx => EvP.bind (keep_Mod x.1 n hx.2.1 hx.2.2 hn hn') (fun t ht => EvP.ret ⟨hx.1, ht⟩))
theorem keep_Range (s : List Int) (a lo hi : Int) (h : Src s a) (hlo : -1000000000000 ≤ lo) (hlh : lo ≤ hi) (hhi : hi ≤ 1000000000000) : EvP (fun _ => shapesearchkeep_Src_Range.f s a lo hi) (fun r => Src s r.2 ∧ lo ≤ r.1 ∧ r.1 ≤ hi) := by
  have e1 : wrap64 (hi - lo) = hi - lo := w64 (by omega) (by omega)
  have e2 : wrap64 (hi - lo + 1) = hi - lo + 1 := w64 (by omega) (by omega)
  unfold shapesearchkeep_Src_Range.f
  rw [e1, e2]
  refine EvP.bind (keep_N s a (hi - lo + 1) h (by omega) (by omega)) (fun x hx => EvP.ret ⟨hx.1, ?_⟩)
  have e3 : wrap64 (lo + x.1) = lo + x.1 := w64 (by omega) (by omega)
  show lo ≤ wrap64 (lo + x.1) ∧ wrap64 (lo + x.1) ≤ hi
  rw [e3]
  omega
theorem keep_Pick (s : List Int) (a : Int) (l : List Int) (h : Src s a) (hl : 1 ≤ l.length) (hl' : l.length ≤ 1000000) : EvP (fun _ => shapesearchkeep_Src_Pick.f s a l) (fun r => Src s r.2 ∧ r.1 ∈ l) := by
  unfold shapesearchkeep_Src_Pick.f
  exact EvP.bind (keep_N s a l.length h (by omega) (by omega)) (fun x hx => EvP.pos hx.2.1 (EvP.pos hx.2.2 (EvP.ret ⟨hx.1, rd_mem l x.1 hx.2.1 hx.2.2⟩)))
theorem keep_clip (x : Int) : EvP (fun _ => shapesearchkeep_clip.f x) (fun t => -1000 ≤ t ∧ t ≤ 1000) := by
  unfold shapesearchkeep_clip.f
  refine EvP.ret ⟨le_mn (Int.le_trans (by omega) (le_mx_right _ _)) (by omega), mn_le_right _ _⟩
theorem keep_List_l0 (s : List Int) (n kind size : Int) (hs : 1 ≤ size ∧ size ≤ 1000) (hn : 0 ≤ n ∧ n ≤ 100000) (d : Nat) :
    ∀ (x : Int) (out : List Int) (a : Int), Src s a → Smp out → -1000 ≤ x → x ≤ 1000 → out.length + d = n →
      EvP (fun k => shapesearchkeep_Src_List.l0 k n kind size x out out.length s a) (fun r => Src s r.2 ∧ Smp r.1 ∧ (r.1.length : Int) = n) := by
  have es : wrap64 (-size) = -size := w64 (by omega) (by omega)
  induction d with
  | zero =>
    intro x out a h ho hx hx' hd
    refine EvP.step (fun k => by rw [shapesearchkeep_Src_List.l0]) ?_
    exact EvP.neg (by omega) (EvP.ret ⟨h, ho, by dsimp only; omega⟩)
  | succ d ih =>
    intro x out a h ho hx hx' hd
    have ew : wrap64 ((out.length : Int) + 1) = (out.length : Int) + 1 := w64 (by omega) (by omega)
    have el : ∀ y : Int, (out.length : Int) + 1 = ((out ++ [y]).length : Nat) := fun y => by simp
    have push : ∀ (x' y a' : Int), Src s a' → -1000 ≤ x' → x' ≤ 1000 → -1000 ≤ y → y ≤ 1000 → EvP (fun k => shapesearchkeep_Src_List.l0 k n kind size x' (out ++ [y]) (wrap64 ((out.length : Int) + 1)) s a') (fun r => Src s r.2 ∧ Smp r.1 ∧ (r.1.length : Int) = n) := by
      intro x' y a' ha h1 h2 h3 h4
      rw [ew, el y]
      exact ih x' (out ++ [y]) a' ha (ho.snoc h3 h4) h1 h2 (by simp; omega)
    have hL : out.length < 17592186044416 := by omega
    have j3 : ∀ b : Bool, EvP (fun k => shapesearchkeep_Src_List.j3 k n kind size x out out.length kind b s a) (fun r => Src s r.2 ∧ Smp r.1 ∧ (r.1.length : Int) = n) := by
      intro b
      refine EvP.step (fun k => by rw [shapesearchkeep_Src_List.j3]) ?_
      refine EvP.ite (fun _ => ?_) (fun _ => EvP.ite (fun _ => ?_) (fun _ => ?_))
      · rw [es]
        refine EvP.bind (keep_Range s a (-size) size h (by omega) (by omega) (by omega)) (fun q hq => ?_)
        refine EvP.bind (keep_clip _) (fun t ht => EvP.pos hL (push t t q.2 hq.1 ht.1 ht.2 ht.1 ht.2))
      · refine EvP.bind (keep_N s a 4 h (by omega) (by omega)) (fun q hq => EvP.ite (fun _ => ?_) (fun _ => EvP.pos hL (push x x q.2 hq.1 hx hx' hx hx')))
        rw [es]
        exact EvP.bind (keep_Range s q.2 (-size) size hq.1 (by omega) (by omega) (by omega)) (fun p hp => EvP.pos hL (push p.1 p.1 p.2 hp.1 (by omega) (by omega) (by omega) (by omega)))
      · refine EvP.bind (keep_Pick s a [-1000, 1000, 1000, 0] h (by simp) (by simp)) (fun q hq => EvP.pos hL (push x q.1 q.2 hq.1 hx hx' ?_ ?_)) <;>
        · have := hq.2
          simp at this
          omega
    have j2 : ∀ b : Bool, EvP (fun k => shapesearchkeep_Src_List.j2 k n kind size x out out.length kind b s a) (fun r => Src s r.2 ∧ Smp r.1 ∧ (r.1.length : Int) = n) := by
      intro b
      refine EvP.step (fun k => by rw [shapesearchkeep_Src_List.j2]) ?_
      refine EvP.ite (fun _ => ?_) (fun _ => EvP.ite (fun _ => j3 _) (fun _ => j3 _))
      rw [es]
      exact EvP.bind (keep_Range s a (-size) size h (by omega) (by omega) (by omega)) (fun q hq => EvP.pos hL (push x q.1 q.2 hq.1 hx hx' (by omega) (by omega)))
    refine EvP.step (fun k => by rw [shapesearchkeep_Src_List.l0]) ?_
    exact EvP.pos (by omega) (EvP.ite (fun _ => j2 _) (fun _ => j2 _))
theorem keep_List (s : List Int) (a n : Int) (h : Src s a) (hn : 0 ≤ n) (hn' : n ≤ 100000) : EvP (fun k => shapesearchkeep_Src_List.f k s a n) (fun r => Src s r.2 ∧ Smp r.1 ∧ (r.1.length : Int) = n) := by
  unfold shapesearchkeep_Src_List.f
  refine EvP.bind (keep_N s a 6 h (by omega) (by omega)) (fun p hp => EvP.bind (keep_Pick s p.2 [1, 3, 10, 100, 1000] hp.1 (by simp) (by simp)) (fun q hq => ?_))
  have hq2 : 1 ≤ q.1 ∧ q.1 ≤ 1000 := by
    have := hq.2
    simp at this
    omega
  have j0 : ∀ x a', Src s a' → -1000 ≤ x → x ≤ 1000 → EvP (fun k => shapesearchkeep_Src_List.j0 k n p.1 q.1 x s a') (fun r => Src s r.2 ∧ Smp r.1 ∧ (r.1.length : Int) = n) := by
    intro x a' ha h1 h2
    refine EvP.step (fun k => by rw [shapesearchkeep_Src_List.j0]) ?_
    exact keep_List_l0 s n p.1 q.1 hq2 ⟨hn, hn'⟩ n.toNat x [] a' ha Smp.nil h1 h2 (by simp; omega)
  refine EvP.bind (keep_N s q.2 3 hq.1 (by omega) (by omega)) (fun r hr => EvP.ite (fun _ => ?_) (fun _ => j0 0 r.2 hr.1 (by omega) (by omega)))
  exact EvP.bind (keep_Range s r.2 (-1000) 1000 hr.1 (by omega) (by omega) (by omega)) (fun v hv => j0 v.1 v.2 hv.1 (by omega) (by omega))
/-! ### series -/
def Smp9 (l : List Int) : Prop := ∀ x ∈ l, x = 1073741824 ∨ (-1000 ≤ x ∧ x ≤ 1000)
instance (l : List Int) : Decidable (Smp9 l) := inferInstanceAs (Decidable (∀ x ∈ l, _))
def Ok9 (s e : Int) (l : List Int) : Prop := 0 ≤ s ∧ s ≤ 1099511627776 ∧ 1 ≤ e ∧ e ≤ 1099511627776 ∧ l.length ≤ 2000 ∧ Smp9 l ∧ s + e * (l.length : Int) ≤ 2199023255552
instance (s e : Int) (l : List Int) : Decidable (Ok9 s e l) := inferInstanceAs (Decidable (_ ∧ _))
theorem mul_bd {e : Int} {n : Nat} (h0 : 0 ≤ e) (h1 : e ≤ 1099511627776) (hn : n ≤ 2000) : 0 ≤ e * (n : Int) ∧ e * (n : Int) ≤ 2199023255552000 := by
  have a1 := Int.mul_nonneg h0 (show 0 ≤ (n : Int) by omega)
  have a2 : e * (n : Int) ≤ 1099511627776 * 2000 := Int.mul_le_mul h1 (by omega) (by omega) (by omega)
  omega
theorem end_is {s e : Int} {l : List Int} (h0 : 0 ≤ s) (h1 : s ≤ 1099511627776) (e0 : 0 ≤ e) (e1 : e ≤ 1099511627776) (hn : l.length ≤ 2000) : series_end.f s e l = some (s + e * (l.length : Int)) := by
  have := mul_bd e0 e1 hn
  unfold series_end.f
  rw [w64 (n := e * (l.length : Int)) (by omega) (by omega), w64 (by omega) (by omega)]
theorem valid_l0 (s e : Int) (l : List Int) (h0 : 0 ≤ s) (h1 : s ≤ 1099511627776) (e0 : 0 ≤ e) (e1 : e ≤ 1099511627776) (hn : l.length ≤ 2000) (d : Nat) : ∀ i : Nat, i + d = l.length →
    Ev (fun k => series_Valid.l0 k l (l.length : Int) (i : Int) s e l) (decide (Smp9 (l.drop i) ∧ s + e * (l.length : Int) ≤ 2199023255552)) := by
  induction d with
  | zero =>
    intro i hi
    refine Ev.step (fun k => by rw [series_Valid.l0]) (Ev.neg (by omega) ?_)
    rw [end_is h0 h1 e0 e1 hn, show l.drop i = [] from List.drop_eq_nil_of_le (by omega)]
    have : (Smp9 [] ∧ s + e * (l.length : Int) ≤ 2199023255552) ↔ s + e * (l.length : Int) ≤ 2199023255552 := ⟨fun h => h.2, fun h => ⟨fun x hx => (by cases hx), h⟩⟩
    rw [decide_eq_decide.2 this]
    exact Ev.bind (Ev.now _) (Ev.now _)
  | succ d ih =>
    intro i hi
    have hlt : i < l.length := by omega
    refine Ev.step (fun k => by rw [series_Valid.l0]) (Ev.pos (by omega) (Ev.pos (by omega) (Ev.pos (by omega) ?_)))
    rw [rd_nat l i hlt, w_succ (by omega)]
    have ih1 := ih (i + 1) (by omega)
    have hd := List.drop_eq_getElem_cons hlt
    have yes : (l[i] = 1073741824 ∨ (-1000 ≤ l[i] ∧ l[i] ≤ 1000)) → (Smp9 (l.drop i) ∧ s + e * (l.length : Int) ≤ 2199023255552 ↔ Smp9 (l.drop (i + 1)) ∧ s + e * (l.length : Int) ≤ 2199023255552) := fun h => by
      rw [hd]
      refine and_congr_left fun _ => ⟨fun g x hx => g x (List.mem_cons_of_mem _ hx), fun g x hx => ?_⟩
      rcases List.mem_cons.1 hx with rfl | hx
      · exact h
      · exact g x hx
    have no : ¬ (l[i] = 1073741824 ∨ (-1000 ≤ l[i] ∧ l[i] ≤ 1000)) → decide (Smp9 (l.drop i) ∧ s + e * (l.length : Int) ≤ 2199023255552) = false := fun h => decide_eq_false fun g => h (g.1 _ (by rw [hd]; exact List.mem_cons_self ..))
    by_cases c1 : l[i] = 1073741824
    · rw [decide_eq_decide.2 (yes (.inl c1))]
      exact Ev.pos c1 ih1
    · by_cases c2 : l[i] < -1000
      · rw [no (by omega)]
        exact Ev.neg c1 (Ev.pos c2 (Ev.now _))
      · by_cases c3 : l[i] > 1000
        · rw [no (by omega)]
          exact Ev.neg c1 (Ev.neg c2 (Ev.pos c3 (Ev.now _)))
        · rw [decide_eq_decide.2 (yes (.inr (by omega)))]
          exact Ev.neg c1 (Ev.neg c2 (Ev.neg c3 ih1))
theorem valid_j0_true (s e : Int) (l : List Int) : Ev (fun k => series_Valid.j0 k true s e l) false := Ev.step (fun k => by rw [series_Valid.j0]) (Ev.pos rfl (Ev.now _))
theorem valid_is (s e : Int) (l : List Int) : Ev (fun k => series_Valid.f k s e l) (decide (Ok9 s e l)) := by
  unfold series_Valid.f
  by_cases c1 : s < 0
  · rw [decide_eq_false (fun h : Ok9 s e l => by have := h.1; omega)]
    exact Ev.pos c1 (valid_j0_true s e l)
  by_cases c2 : s > 1099511627776
  · rw [decide_eq_false (fun h : Ok9 s e l => by have := h.2.1; omega)]
    exact Ev.neg c1 (Ev.pos c2 (valid_j0_true s e l))
  by_cases c3 : e < 1
  · rw [decide_eq_false (fun h : Ok9 s e l => by have := h.2.2.1; omega)]
    exact Ev.neg c1 (Ev.neg c2 (Ev.pos c3 (valid_j0_true s e l)))
  by_cases c4 : e > 1099511627776
  · rw [decide_eq_false (fun h : Ok9 s e l => by have := h.2.2.2.1; omega)]
    exact Ev.neg c1 (Ev.neg c2 (Ev.neg c3 (Ev.pos c4 (valid_j0_true s e l))))
  refine Ev.neg c1 (Ev.neg c2 (Ev.neg c3 (Ev.neg c4 ?_)))
  by_cases c5 : (l.length : Int) > 2000
  · rw [decide_eq_false (fun h : Ok9 s e l => by have := h.2.2.2.2.1; omega), decide_eq_true c5]
    exact valid_j0_true s e l
  rw [decide_eq_false c5]
  refine Ev.step (fun k => by rw [series_Valid.j0]) (Ev.neg (by decide) ?_)
  have h := valid_l0 s e l (by omega) (by omega) (by omega) (by omega) (by omega) l.length 0 (by omega)
  rw [List.drop_zero] at h
  have : Ok9 s e l ↔ (Smp9 l ∧ s + e * (l.length : Int) ≤ 2199023255552) := ⟨fun h => h.2.2.2.2.2, fun h => ⟨by omega, by omega, by omega, by omega, by omega, h⟩⟩
  rw [decide_eq_decide.2 this]
  exact h
theorem valid_yes {s e : Int} {l : List Int} (h : Ok9 s e l) : Ev (fun k => series_Valid.f k s e l) true := by
  have := valid_is s e l
  rw [decide_eq_true h] at this
  exact this
/-! ### places of windows -/
/-- No value is missing from i on, m long, and there are so many. -/
def Win (l : List Int) (i m : Nat) : Prop := i + m ≤ l.length ∧ ∀ j, i ≤ j → j < i + m → l.getD j 0 ≠ 1073741824
theorem startsOf_mem {a c : Nat} (h : a + c ≤ 100000) (m : Nat) (x : Int) : x ∈ X.startsOf (X.mkR a c) (X.cntR (m : Int) (X.mkR a c)) ↔ ∃ n : Nat, x = (n : Int) ∧ a ≤ n ∧ n + m ≤ a + c := by
  unfold X.startsOf X.cntR
  rw [X.mkR_is h]
  simp only [List.mem_map, List.mem_range]
  constructor
  · rintro ⟨j, hj, rfl⟩
    exact ⟨a + j, by omega, by omega, by omega⟩
  · rintro ⟨n, rfl, h1, h2⟩
    exact ⟨n - a, by omega, by omega⟩
theorem startsP_cons (m : Int) (x : X.RunP) (pre : List X.RunP) : X.startsP m (x :: pre) = X.startsOf x (X.cntR m x) ++ X.startsP m pre := by simp [X.startsP]
theorem startsP_nil (m : Int) : X.startsP m [] = [] := rfl
theorem startsG_mem (l : List Int) (hl : l.length ≤ 99999) (m : Nat) (hm : 1 ≤ m) : ∀ (d i fr : Nat), i + d = l.length + 1 → fr ≤ i → (∀ j, fr ≤ j → j < i → j < l.length ∧ l.getD j 0 ≠ 1073741824) →
    ∀ x : Int, x ∈ X.startsP (m : Int) (X.runsG l d i fr) ↔ ∃ n : Nat, x = (n : Int) ∧ fr ≤ n ∧ Win l n m
  | 0, i, fr, hd, hf, hg, x => by
    rw [X.runsG, startsP_nil]
    refine ⟨fun h => (by cases h), fun ⟨n, _, h1, h2⟩ => ?_⟩
    have h3 := h2.1
    exact absurd (hg l.length (by omega) (by omega)).1 (Nat.lt_irrefl _)
  | d + 1, i, fr, hd, hf, hg, x => by
    by_cases h : i < l.length ∧ l.getD i 0 ≠ 1073741824
    · rw [X.runsG_on l d i fr h]
      refine startsG_mem l hl m hm d (i + 1) fr (by omega) (by omega) (fun j h1 h2 => ?_) x
      by_cases e : j = i
      · rw [e]; exact h
      · exact hg j h1 (by omega)
    · have ih := startsG_mem l hl m hm d (i + 1) (i + 1) (by omega) (Nat.le_refl _) (fun j h1 h2 => by omega) x
      have key : (∃ n : Nat, x = (n : Int) ∧ fr ≤ n ∧ Win l n m) ↔ ((∃ n : Nat, x = (n : Int) ∧ fr ≤ n ∧ n + m ≤ i) ∨ ∃ n : Nat, x = (n : Int) ∧ i + 1 ≤ n ∧ Win l n m) := by
        constructor
        · rintro ⟨n, e, h1, h2, h3⟩
          by_cases c : n + m ≤ i
          · exact .inl ⟨n, e, h1, c⟩
          · by_cases c2 : i + 1 ≤ n
            · exact .inr ⟨n, e, c2, h2, h3⟩
            · exact absurd ⟨by omega, h3 i (by omega) (by omega)⟩ h
        · rintro (⟨n, e, h1, h2⟩ | ⟨n, e, h1, h2⟩)
          · refine ⟨n, e, h1, ?_, fun j j1 j2 => (hg j (by omega) (by omega)).2⟩
            have := (hg (n + m - 1) (by omega) (by omega)).1
            omega
          · exact ⟨n, e, by omega, h2⟩
      by_cases hlt : fr < i
      · rw [X.runsG_give l d i fr h hlt, startsP_cons, List.mem_append, ih, key, startsOf_mem (by omega) m x]
        have : fr + (i - fr) = i := by omega
        rw [this]
      · rw [X.runsG_stop l d i fr h hlt, ih, key]
        constructor
        · exact fun h => .inr h
        · rintro (⟨n, e, h1, h2⟩ | h)
          · omega
          · exact h
theorem starts_mem (l : List Int) (hl : l.length ≤ 99999) (m : Nat) (hm : 1 ≤ m) (x : Int) : x ∈ X.startsP (m : Int) (X.runsP l) ↔ ∃ n : Nat, x = (n : Int) ∧ Win l n m := by
  unfold X.runsP
  rw [startsG_mem l hl m hm (l.length + 1) 0 0 (by omega) (Nat.le_refl _) (fun j h1 h2 => by omega) x]
  exact ⟨fun ⟨n, h1, _, h2⟩ => ⟨n, h1, h2⟩, fun ⟨n, h1, h2⟩ => ⟨n, h1, Nat.zero_le _, h2⟩⟩
theorem startsOf_asc (r : X.RunP) (k : Nat) : (X.startsOf r k).Pairwise (· < ·) := by
  unfold X.startsOf
  rw [List.pairwise_map]
  exact List.pairwise_lt_range.imp (fun {a b} h => by omega)
theorem startsG_asc (l : List Int) (hl : l.length ≤ 99999) (m : Nat) (hm : 1 ≤ m) : ∀ (d i fr : Nat), i + d = l.length + 1 → fr ≤ i → (X.startsP (m : Int) (X.runsG l d i fr)).Pairwise (· < ·)
  | 0, i, fr, hd, hf => by rw [X.runsG, startsP_nil]; exact List.Pairwise.nil
  | d + 1, i, fr, hd, hf => by
    by_cases h : i < l.length ∧ l.getD i 0 ≠ 1073741824
    · rw [X.runsG_on l d i fr h]
      exact startsG_asc l hl m hm d (i + 1) fr (by omega) (by omega)
    · have ih := startsG_asc l hl m hm d (i + 1) (i + 1) (by omega) (Nat.le_refl _)
      by_cases hlt : fr < i
      · rw [X.runsG_give l d i fr h hlt, startsP_cons, List.pairwise_append]
        refine ⟨startsOf_asc _ _, ih, fun a ha b hb => ?_⟩
        obtain ⟨n, rfl, h1, h2⟩ := (startsOf_mem (by omega) m a).1 ha
        obtain ⟨n', rfl, h1', h2'⟩ := (startsG_mem l hl m hm d (i + 1) (i + 1) (by omega) (Nat.le_refl _) (fun j h1 h2 => by omega) b).1 hb
        omega
      · rw [X.runsG_stop l d i fr h hlt]
        exact ih
theorem starts_asc (l : List Int) (hl : l.length ≤ 99999) (m : Nat) (hm : 1 ≤ m) : (X.startsP (m : Int) (X.runsP l)).Pairwise (· < ·) := startsG_asc l hl m hm _ 0 0 (by omega) (Nat.le_refl _)
theorem Starts_is {s e : Int} {l : List Int} (h : Ok9 s e l) (m : Nat) (hm : 1 ≤ m) (hm' : m ≤ 1000000) : Ev (fun k => series_Starts.f k s e l (m : Int)) (X.startsP (m : Int) (X.runsP l)) := by
  unfold series_Starts.f
  exact Ev.bind (valid_yes h) (Ev.pos rfl (Ev.neg (by omega) (Ev.pos (by omega) (Ev.pos (by have := h.2.2.2.2.1; omega) (Ev.now _)))))
/-! ### lists searched -/
theorem index_l0 (l : List Int) (x : Int) (hn : l.length ≤ 1000000) (d : Nat) : ∀ i : Nat, i + d = l.length → EvP (fun k => slices_Index_int_int.l0 k l x (l.length : Int) (i : Int)) (fun r => (0 ≤ r ↔ x ∈ l.drop i)) := by
  induction d with
  | zero =>
    intro i hi
    refine EvP.step (fun k => by rw [slices_Index_int_int.l0]) (EvP.neg (by omega) (EvP.ret ?_))
    rw [show l.drop i = [] from List.drop_eq_nil_of_le (by omega)]
    exact ⟨fun h => by omega, fun h => by cases h⟩
  | succ d ih =>
    intro i hi
    have hlt : i < l.length := by omega
    refine EvP.step (fun k => by rw [slices_Index_int_int.l0]) (EvP.pos (by omega) (EvP.pos (by omega) (EvP.pos (by omega) ?_)))
    rw [rd_nat l i hlt, w_succ (by omega), List.drop_eq_getElem_cons hlt]
    refine EvP.ite (fun h => EvP.ret ⟨fun _ => by rw [h]; exact List.mem_cons_self .., fun _ => by omega⟩) (fun h => (ih (i + 1) (by omega)).mono (fun r hr => ?_))
    rw [hr, List.mem_cons]
    exact ⟨fun g => .inr g, fun g => g.resolve_left h⟩
theorem contains_is (l : List Int) (x : Int) (hn : l.length ≤ 1000000) : Ev (fun k => slices_Contains_int_int.f k l x) (decide (x ∈ l)) := by
  obtain ⟨r, hr, hx⟩ := index_l0 l x hn l.length 0 (by omega)
  rw [List.drop_zero] at hx
  unfold slices_Contains_int_int.f slices_Index_int_int.f
  rw [← decide_eq_decide.2 hx]
  exact Ev.bind hr (Ev.now _)
/-! ### windows -/
theorem win_iff (l : List Int) (i m : Nat) (h : i + m ≤ l.length) : Win l i m ↔ 1073741824 ∉ (l.take (i + m)).drop i := by
  constructor
  · rintro ⟨_, h2⟩ hm
    obtain ⟨j, hj, e⟩ := List.mem_iff_getElem.1 hm
    rw [List.length_drop, List.length_take] at hj
    rw [List.getElem_drop, List.getElem_take] at e
    refine h2 (i + j) (by omega) (by omega) ?_
    rw [List.getD_eq_getElem?_getD, List.getElem?_eq_getElem (by omega), e]
    rfl
  · intro hn
    refine ⟨h, fun j h1 h2 e => hn ?_⟩
    refine List.mem_iff_getElem.2 ⟨j - i, by rw [List.length_drop, List.length_take]; omega, ?_⟩
    rw [List.getElem_drop, List.getElem_take]
    rw [List.getD_eq_getElem?_getD, List.getElem?_eq_getElem (show j < l.length by omega)] at e
    have : i + (j - i) = j := by omega
    simp only [this]
    exact e
theorem inside_is {s e : Int} {l : List Int} (hn : l.length ≤ 2000) (i m : Int) : series_inside.f s e l i m = some (decide (0 ≤ i ∧ 0 ≤ m ∧ i ≤ (l.length : Int) ∧ m ≤ (l.length : Int) - i)) := by
  unfold series_inside.f
  by_cases c1 : i ≥ 0
  · rw [if_pos c1]
    by_cases c2 : m ≥ 0
    · rw [if_pos c2]
      by_cases c3 : i ≤ (l.length : Int)
      · rw [if_pos c3, w64 (by omega) (by omega)]
        congr 1
        exact decide_eq_decide.2 ⟨fun h => ⟨c1, c2, c3, h⟩, fun h => h.2.2.2⟩
      · rw [if_neg c3, decide_eq_false (fun h => c3 h.2.2.1)]
    · rw [if_neg c2, decide_eq_false (fun h => c2 h.2.1)]
  · rw [if_neg c1, decide_eq_false (fun h => c1 h.1)]
theorem Window_in {s e : Int} {l : List Int} (h : Ok9 s e l) (i m : Nat) (hm : 1 ≤ m) (hw : i + m ≤ l.length) : Ev (fun k => series_Window.f k s e l (i : Int) (m : Int)) (if 1073741824 ∈ (l.take (i + m)).drop i then (([] : List Int), (13 : Int)) else ((l.take (i + m)).drop i, 0)) := by
  have hn := h.2.2.2.2.1
  unfold series_Window.f
  refine Ev.bind (valid_yes h) (Ev.pos rfl (Ev.neg (by omega) ?_))
  rw [inside_is hn, decide_eq_true (by omega)]
  refine Ev.bind (Ev.now _) (Ev.step (fun k => by rw [series_Window.j0]) (Ev.neg (by decide) ?_))
  have e1 : wrap64 ((i : Int) + (m : Int)) = ((i + m : Nat) : Int) := by rw [w64 (by omega) (by omega)]; omega
  rw [e1, Int.toNat_natCast, Int.toNat_natCast]
  have hl : ((l.take (i + m)).drop i).length ≤ 1000000 := by rw [List.length_drop, List.length_take]; omega
  refine Ev.pos (by omega) (Ev.pos (by omega) (Ev.pos (by omega) ?_))
  unfold slices_Clone_int_int.f
  rw [if_pos hl]
  refine Ev.bind (Ev.now _) (Ev.bind (contains_is _ 1073741824 hl) ?_)
  by_cases c : 1073741824 ∈ (l.take (i + m)).drop i
  · rw [if_pos c]
    exact Ev.pos (decide_eq_true c) (Ev.now _)
  · rw [if_neg c]
    exact Ev.neg (by rw [decide_eq_false c]; decide) (Ev.now _)
theorem Window_out {s e : Int} {l : List Int} (h : Ok9 s e l) (i m : Nat) (hm : 1 ≤ m) (hw : ¬ i + m ≤ l.length) : Ev (fun k => series_Window.f k s e l (i : Int) (m : Int)) (([] : List Int), (1 : Int)) := by
  have hn := h.2.2.2.2.1
  unfold series_Window.f
  refine Ev.bind (valid_yes h) (Ev.pos rfl (Ev.neg (by omega) ?_))
  rw [inside_is hn, decide_eq_false (by omega)]
  exact Ev.bind (Ev.now _) (Ev.step (fun k => by rw [series_Window.j0]) (Ev.pos (by decide) (Ev.now _)))
/-! ### series out of a list -/
theorem Smp9.of {l : List Int} (h : Smp l) : Smp9 l := fun x hx => .inr (h x hx)
theorem Smp9.set {l : List Int} (h : Smp9 l) (i : Nat) : Smp9 (l.set i 1073741824) := fun y hy => by
  rcases mem_set hy with hy | hy
  · exact h y hy
  · exact .inl hy
def Nice (s e : Int) (l : List Int) (n : Nat) : Prop := 0 ≤ s ∧ s ≤ 1000 ∧ 1 ≤ e ∧ e ≤ 20 ∧ l.length ≤ n ∧ Smp9 l
theorem mul_sm {e : Int} {n : Nat} (h0 : 0 ≤ e) (h1 : e ≤ 20) {N : Nat} (hn : n ≤ N) : 0 ≤ e * (n : Int) ∧ e * (n : Int) ≤ 20 * (N : Int) := by
  have a1 := Int.mul_nonneg h0 (show 0 ≤ (n : Int) by omega)
  have a2 : e * (n : Int) ≤ 20 * (N : Int) := Int.mul_le_mul h1 (by omega) (by omega) (by omega)
  omega
theorem Nice.ok {s e : Int} {l : List Int} {n : Nat} (h : Nice s e l n) (hn : n ≤ 100) : Ok9 s e l := by
  obtain ⟨h1, h2, h3, h4, h5, h6⟩ := h
  have := mul_sm (e := e) (by omega) h4 h5
  exact ⟨h1, by omega, h3, by omega, by omega, h6, by omega⟩
theorem keep_Series (t : List Int) (a : Int) (h : Src t a) (n : Nat) (hn : n ≤ 100) : EvP (fun k => shapesearchkeep_Src_Series.f k t a (n : Int)) (fun r => Src t r.2.2.2 ∧ Nice r.1 r.2.1 r.2.2.1 n) := by
  unfold shapesearchkeep_Src_Series.f
  rw [w_succ (by omega)]
  refine EvP.bind (keep_Pick t a [0, 5, 1000] h (by simp) (by simp)) (fun p hp => EvP.bind (keep_Range t p.2 1 20 hp.1 (by omega) (by omega) (by omega)) (fun q hq => EvP.bind (keep_N t q.2 ((n + 1 : Nat) : Int) hq.1 (by omega) (by omega)) (fun c hc => EvP.bind (keep_List t c.2 c.1 hc.1 (by omega) (by omega)) (fun x hx => EvP.bind (keep_Pick t x.2 [0, 0, 2, 5, 12] hx.1 (by simp) (by simp)) (fun z hz => ?_)))))
  have hp2 := hp.2
  simp at hp2
  have hz2 := hz.2
  simp at hz2
  have hx2 := hx.2.2
  have key : ∀ (d i : Nat) (y : List Int) (a' : Int), i + d = x.1.length → y.length = x.1.length → Smp9 y → Src t a' →
      EvP (fun k => shapesearchkeep_Src_Series.l0 k z.1 (x.1.length : Int) (i : Int) t a' p.1 q.1 y) (fun r => Src t r.2.2.2 ∧ Nice r.1 r.2.1 r.2.2.1 n) := by
    intro d
    induction d with
    | zero =>
      intro i y a' hi hy hs ha
      exact EvP.step (fun k => by rw [shapesearchkeep_Src_Series.l0]) (EvP.neg (by omega) (EvP.ret ⟨ha, by dsimp only; omega, by dsimp only; omega, hq.2.1, hq.2.2, by dsimp only; omega, hs⟩))
    | succ d ih =>
      intro i y a' hi hy hs ha
      refine EvP.step (fun k => by rw [shapesearchkeep_Src_Series.l0]) (EvP.pos (by omega) ?_)
      rw [w_succ (by omega)]
      refine EvP.ite (fun h0 => ?_) (fun _ => ih (i + 1) y a' (by omega) hy hs ha)
      refine EvP.bind (keep_N t a' z.1 ha (by omega) (by omega)) (fun u hu => EvP.ite (fun _ => ?_) (fun _ => ih (i + 1) y u.2 (by omega) hy hs hu.1))
      refine EvP.pos (by omega) (EvP.pos (by omega) ?_)
      exact ih (i + 1) _ u.2 (by omega) (by rw [List.length_set]; exact hy) (hs.set _) hu.1
  exact key x.1.length 0 x.1 z.2 (by omega) rfl (Smp9.of hx.2.1) hz.1
theorem awake_is : Ev (fun k => shapesearchlaw09_awake.f k) true := Ev.of shapesearchlaw09_awake.mono (k := 40) (by decide +kernel)
theorem Cut_in {s e : Int} {l : List Int} (h : Ok9 s e l) (i c : Nat) (hw : i + c ≤ l.length) (ht : s + (i : Int) * e ≤ 1099511627776) : Ev (fun k => series_Cut.f k s e l (i : Int) (c : Int)) (s + (i : Int) * e, e, (l.take (i + c)).drop i, 0) := by
  obtain ⟨g1, g2, g3, g4, hn, _, _⟩ := id h
  have hb := mul_bd (e := e) (n := i) (by omega) g4 (by omega)
  rw [Int.mul_comm] at hb
  unfold series_Cut.f
  refine Ev.bind (valid_yes h) (Ev.pos rfl ?_)
  rw [inside_is hn, decide_eq_true (by omega)]
  have e2 : wrap64 (s + wrap64 ((i : Int) * e)) = s + (i : Int) * e := by rw [w64 (n := (i : Int) * e) (by omega) (by omega), w64 (by omega) (by omega)]
  have e1 : wrap64 ((i : Int) + (c : Int)) = ((i + c : Nat) : Int) := by rw [w64 (by omega) (by omega)]; omega
  rw [e1, e2, Int.toNat_natCast, Int.toNat_natCast]
  have hl : ((l.take (i + c)).drop i).length ≤ 1000000 := by rw [List.length_drop, List.length_take]; omega
  unfold slices_Clone_int_int.f
  rw [if_pos hl]
  clear e1 e2
  exact Ev.bind (Ev.now _) (Ev.pos rfl (Ev.neg (by omega) (Ev.pos (by omega) (Ev.pos (by omega) (Ev.pos (by omega) (Ev.bind (Ev.now _) (Ev.now _)))))))
theorem Smp9.drop {l : List Int} (h : Smp9 l) (n : Nat) : Smp9 (l.drop n) := fun x hx => h x (List.mem_of_mem_drop hx)
theorem Smp9.take {l : List Int} (h : Smp9 l) (n : Nat) : Smp9 (l.take n) := fun x hx => h x (List.mem_of_mem_take hx)
/-! ### two series joined -/
theorem Same_refl (s e : Int) (l : List Int) (hn : l.length ≤ 1000000) : Ev (fun k => shapesearchref09_Same.f k s e l s e l) true := by
  unfold shapesearchref09_Same.f
  refine Ev.pos rfl (Ev.pos rfl ?_)
  rw [bne_self_eq_false]
  refine Ev.step (fun k => by rw [shapesearchref09_Same.j0]) (Ev.neg (by decide) ?_)
  have key : ∀ (d i : Nat), i + d = l.length → Ev (fun k => shapesearchref09_Same.l0 k (l.length : Int) (i : Int) s e l s e l) true := by
    intro d
    induction d with
    | zero =>
      intro i hi
      exact Ev.step (fun k => by rw [shapesearchref09_Same.l0]) (Ev.neg (by omega) (Ev.now _))
    | succ d ih =>
      intro i hi
      refine Ev.step (fun k => by rw [shapesearchref09_Same.l0]) (Ev.pos (by omega) (Ev.pos (by omega) (Ev.pos (by omega) (Ev.pos (by omega) (Ev.pos rfl ?_)))))
      rw [w_succ (by omega)]
      exact ih (i + 1) (by omega)
  exact key l.length 0 (by omega)
theorem Join_is {s e s2 : Int} {l l2 : List Int} (h1 : Ok9 s e l) (h2 : Ok9 s2 e l2) (n : Nat) (hs : s2 = s + e * ((l.length + n : Nat) : Int)) (h3 : Ok9 s e (l ++ (List.replicate n 1073741824 ++ l2))) :
    Ev (fun k => series_Join.f k s e l s2 e l2) (s, e, l ++ (List.replicate n 1073741824 ++ l2), 0) := by
  obtain ⟨g1, g2, g3, g4, g5, _, _⟩ := id h1
  obtain ⟨k1, k2, _, _, k5, _, _⟩ := id h2
  have h3l := h3.2.2.2.2.1
  rw [List.length_append, List.length_append, List.length_replicate] at h3l
  have hgap : s2 - (s + e * (l.length : Int)) = e * (n : Int) := by
    rw [hs, show ((l.length + n : Nat) : Int) = (l.length : Int) + (n : Int) by omega, Int.mul_add]
    omega
  have hq : (s2 - (s + e * (l.length : Int))) / e = (n : Int) := by rw [hgap]; exact Int.mul_ediv_cancel_left _ (by omega)
  have hrow : series_Join.row s e l s2 l2 = l ++ (List.replicate n 1073741824 ++ l2) := by
    unfold series_Join.row
    rw [hq, Int.toNat_natCast]
  unfold series_Join.f
  rw [hrow]
  refine Ev.bind (valid_yes h1) (Ev.bind (valid_yes h2) (Ev.bind (valid_yes h3) (Ev.pos rfl (Ev.pos rfl (Ev.pos rfl (Ev.pos ?_ (Ev.now _)))))))
  unfold series_Join.ok
  rw [hq]
  exact decide_eq_true ⟨g1, by omega, g3, by omega, k1, by omega, rfl, g5, by omega, by omega, by omega⟩
theorem Smp9.app {l l2 : List Int} (h : Smp9 l) (h2 : Smp9 l2) (n : Nat) : Smp9 (l ++ (List.replicate n 1073741824 ++ l2)) := fun x hx => by
  rcases List.mem_append.1 hx with hx | hx
  · exact h x hx
  · rcases List.mem_append.1 hx with hx | hx
    · exact .inl (List.mem_replicate.1 hx).2
    · exact h2 x hx
/-- A series of no more than so many values, with small steps, wherever it begins below so much. -/
theorem ok9_of {s e : Int} {l : List Int} (h0 : 0 ≤ s) (h1 : s ≤ 1000000) (e0 : 1 ≤ e) (e1 : e ≤ 20) (hl : l.length ≤ 2000) (hs : Smp9 l) : Ok9 s e l := by
  have := mul_sm (e := e) (n := l.length) (N := 2000) (by omega) e1 hl
  exact ⟨h0, by omega, e0, by omega, hl, hs, by omega⟩
def RunsOk (l : List Int) : Int → List X.RunP → Prop
  | _, [] => True
  | e, r :: rs => e < (r.1.1 : Int) ∧ 1 ≤ r.1.2 ∧ r.1.1 + r.1.2 ≤ l.length ∧ (∀ j, j < r.1.2 → l.getD (r.1.1 + j) 0 ≠ 1073741824) ∧ RunsOk l ((r.1.1 + r.1.2 : Nat) : Int) rs
def sumC : List X.RunP → Nat
  | [] => 0
  | r :: rs => r.1.2 + sumC rs
def cntN (l : List Int) : Nat := (l.filter fun x => decide (x ≠ 1073741824)).length
theorem runsG_ok (l : List Int) (hl : l.length ≤ 99999) : ∀ (d i fr : Nat) (e : Int), i + d = l.length + 1 → fr ≤ i → (∀ j, fr ≤ j → j < i → j < l.length ∧ l.getD j 0 ≠ 1073741824) → e < (fr : Int) →
    RunsOk l e (X.runsG l d i fr) ∧ sumC (X.runsG l d i fr) = (i - fr) + cntN (l.drop i)
  | 0, i, fr, e, hd, hf, hg, he => by
    have h : fr = i := by
      by_cases c : fr ≤ l.length
      · exact absurd (hg l.length c (by omega)).1 (Nat.lt_irrefl _)
      · omega
    rw [X.runsG]
    refine ⟨trivial, ?_⟩
    rw [List.drop_eq_nil_of_le (by omega)]
    show 0 = i - fr + 0
    omega
  | d + 1, i, fr, e, hd, hf, hg, he => by
    by_cases h : i < l.length ∧ l.getD i 0 ≠ 1073741824
    · have ih := runsG_ok l hl d (i + 1) fr e (by omega) (by omega) (fun j h1 h2 => by
        by_cases e : j = i
        · rw [e]; exact h
        · exact hg j h1 (by omega)) he
      rw [X.runsG_on l d i fr h]
      refine ⟨ih.1, ?_⟩
      have h2 := h.2
      rw [List.getD_eq_getElem?_getD, List.getElem?_eq_getElem h.1] at h2
      have h3 : l[i] ≠ 1073741824 := h2
      rw [ih.2, List.drop_eq_getElem_cons h.1]
      unfold cntN
      rw [List.filter_cons, if_pos (by simpa using h3), List.length_cons]
      omega
    · have hc : cntN (l.drop i) = cntN (l.drop (i + 1)) := by
        by_cases c : i < l.length
        · have h2 : l.getD i 0 = 1073741824 := Classical.byContradiction fun g => h ⟨c, g⟩
          rw [List.getD_eq_getElem?_getD, List.getElem?_eq_getElem c] at h2
          have h3 : l[i] = 1073741824 := h2
          rw [List.drop_eq_getElem_cons c]
          unfold cntN
          rw [List.filter_cons, if_neg (by simp [h3])]
        · rw [List.drop_eq_nil_of_le (by omega), List.drop_eq_nil_of_le (by omega)]
      by_cases hlt : fr < i
      · have ih := runsG_ok l hl d (i + 1) (i + 1) (i : Int) (by omega) (Nat.le_refl _) (fun j h1 h2 => by omega) (by omega)
        have hk : (X.mkR fr (i - fr)).1 = (fr, i - fr) := X.mkR_is (by omega)
        have hlast := (hg (i - 1) (by omega) (by omega)).1
        rw [X.runsG_give l d i fr h hlt]
        refine ⟨?_, ?_⟩
        · show e < ((X.mkR fr (i - fr)).1.1 : Int) ∧ _
          rw [hk]
          refine ⟨he, by dsimp only; omega, by dsimp only; omega, fun j hj => (hg (fr + j) (by omega) (by dsimp only at hj; omega)).2, ?_⟩
          have : fr + (i - fr) = i := by omega
          dsimp only
          rw [this]
          exact ih.1
        · show (X.mkR fr (i - fr)).1.2 + _ = _
          rw [hk, ih.2, hc]
          dsimp only
          omega
      · have ih := runsG_ok l hl d (i + 1) (i + 1) e (by omega) (Nat.le_refl _) (fun j h1 h2 => by omega) (by omega)
        rw [X.runsG_stop l d i fr h hlt]
        refine ⟨ih.1, ?_⟩
        rw [ih.2, hc]
        omega
theorem cntN_le : ∀ l : List Int, cntN l ≤ l.length := fun l => List.length_filter_le _ _
theorem startsP1_len : ∀ l : List X.RunP, (X.startsP 1 l).length = sumC l
  | [] => rfl
  | r :: l => by
    have h : X.startsP 1 (r :: l) = X.startsOf r (X.cntR 1 r) ++ X.startsP 1 l := by simp [X.startsP]
    rw [h, List.length_append, X.startsOf_len, startsP1_len l]
    have : X.cntR 1 r = r.1.2 := by unfold X.cntR; omega
    rw [this]
    rfl
theorem starts1_len (l : List Int) (hl : l.length ≤ 99999) : (X.startsP ((1 : Nat) : Int) (X.runsP l)).length = cntN l := by
  have h1 := startsP1_len (X.runsP l)
  have h2 := (runsG_ok l hl (l.length + 1) 0 0 (-1) (by omega) (Nat.le_refl _) (fun j h1 h2 => by omega) (by omega)).2
  rw [List.drop_zero] at h2
  rw [show (((1 : Nat) : Int)) = 1 from rfl, h1]
  unfold X.runsP
  omega
theorem cntN_app (l l2 : List Int) (n : Nat) : cntN (l ++ (List.replicate n 1073741824 ++ l2)) = cntN l + cntN l2 := by
  unfold cntN
  rw [List.filter_append, List.filter_append, List.length_append, List.length_append]
  have : (List.replicate n (1073741824 : Int)).filter (fun x => decide (x ≠ 1073741824)) = [] := List.filter_eq_nil_iff.2 (fun x hx => by rw [(List.mem_replicate.1 hx).2]; decide)
  rw [this]
  simp
theorem sp_j1 (s e s2 : Int) (la lb : List Int) (g : Nat) (hg : g ≤ 255) (h0 : 0 ≤ s) (h1 : s ≤ 1000) (e0 : 1 ≤ e) (e1 : e ≤ 20) (ha : la.length ≤ 40) (hb : lb.length ≤ 40) (sa : Smp9 la) (sb : Smp9 lb)
    (hs2 : s2 = s + e * ((la.length + g : Nat) : Int)) :
    Ev (fun k => shapesearchlaw09_SeriesParts.j1 k (g : Int) (la.length : Int) (lb.length : Int) false s e la s2 e lb s e (la ++ (List.replicate g 1073741824 ++ lb))) true := by
  obtain ⟨m0, m1⟩ := mul_sm (e := e) (n := la.length + g) (N := 300) (by omega) e1 (by omega)
  have hl : (la ++ (List.replicate g 1073741824 ++ lb)).length = la.length + g + lb.length := by simp only [List.length_append, List.length_replicate]; omega
  have oa := ok9_of (s := s) (e := e) (l := la) h0 (by omega) e0 e1 (by omega) sa
  have ob := ok9_of (s := s2) (e := e) (l := lb) (by omega) (by omega) e0 e1 (by omega) sb
  have oj := ok9_of (s := s) (e := e) (l := la ++ (List.replicate g 1073741824 ++ lb)) h0 (by omega) e0 e1 (by rw [hl]; omega) (sa.app sb g)
  have hcut := Cut_in oj (la.length + g) lb.length (by rw [hl]; omega) (by rw [Int.mul_comm]; omega)
  have ht : ((la ++ (List.replicate g 1073741824 ++ lb)).take (la.length + g + lb.length)).drop (la.length + g) = lb := by
    rw [List.take_of_length_le (by rw [hl]; exact Nat.le_refl _), ← List.append_assoc, List.drop_append_of_le_length (by simp), List.drop_of_length_le (by simp), List.nil_append]
  rw [ht, Int.mul_comm, ← hs2] at hcut
  refine Ev.step (fun k => by rw [shapesearchlaw09_SeriesParts.j1]) (Ev.neg (by decide) ?_)
  rw [w64 (n := (g : Int)) (by omega) (by omega), show wrap64 ((la.length : Int) + (g : Int)) = ((la.length + g : Nat) : Int) by rw [w64 (by omega) (by omega)]; omega]
  have l1 := starts1_len (la ++ (List.replicate g 1073741824 ++ lb)) (by rw [hl]; omega)
  have l2 := starts1_len la (by omega)
  have l3 := starts1_len lb (by omega)
  have c1 := cntN_le la
  have c2 := cntN_le lb
  rw [cntN_app] at l1
  refine Ev.bind hcut (Ev.pos rfl (Ev.bind (Same_refl s2 e lb (by omega)) (Ev.pos rfl (Ev.bind (Starts_is oj 1 (by omega) (by omega)) (Ev.bind (Starts_is oa 1 (by omega) (by omega)) (Ev.bind (Starts_is ob 1 (by omega) (by omega)) (Ev.pos ?_ (Ev.bind awake_is (Ev.now _)))))))))
  rw [l1, l2, l3, w64 (by omega) (by omega)]
  omega
theorem sp_j0 (s e sb : Int) (la lb : List Int) (l : List Int) (g : Nat) (hg : g ≤ 255) (h0 : 0 ≤ s) (h1 : s ≤ 1000) (e0 : 1 ≤ e) (e1 : e ≤ 20) (ha : la.length ≤ 40) (hb : lb.length ≤ 40) (sma : Smp9 la) (smb : Smp9 lb)
    (hsb : sb = s + e * (la.length : Int)) :
    Ev (fun k => shapesearchlaw09_SeriesParts.j0 k (g : Int) (la.length : Int) (lb.length : Int) false s e l s e la sb e lb) true := by
  obtain ⟨m0, m1⟩ := mul_sm (e := e) (n := la.length + g) (N := 300) (by omega) e1 (by omega)
  obtain ⟨m2, m3⟩ := mul_sm (e := e) (n := g) (N := 300) (by omega) e1 (by omega)
  obtain ⟨m4, m5⟩ := mul_sm (e := e) (n := la.length) (N := 300) (by omega) e1 (by omega)
  have hl : (la ++ (List.replicate g 1073741824 ++ lb)).length = la.length + g + lb.length := by simp only [List.length_append, List.length_replicate]; omega
  have hs2 : sb + e * (g : Int) = s + e * ((la.length + g : Nat) : Int) := by
    rw [hsb, Int.add_assoc, ← Int.mul_add]
    congr 2
  refine Ev.step (fun k => by rw [shapesearchlaw09_SeriesParts.j0]) (Ev.neg (by decide) ?_)
  rw [w64 (n := (g : Int)) (by omega) (by omega), w64 (n := e * (g : Int)) (by omega) (by omega), w64 (by omega) (by omega), hs2]
  generalize hs2' : s + e * ((la.length + g : Nat) : Int) = s2 at *
  have oa := ok9_of (s := s) (e := e) (l := la) h0 (by omega) e0 e1 (by omega) sma
  have ob := ok9_of (s := s2) (e := e) (l := lb) (by omega) (by omega) e0 e1 (by omega) smb
  have oj := ok9_of (s := s) (e := e) (l := la ++ (List.replicate g 1073741824 ++ lb)) h0 (by omega) e0 e1 (by rw [hl]; omega) (sma.app smb g)
  have hj := Join_is oa ob g hs2'.symm oj
  refine Ev.bind hj (Ev.pos rfl ?_)
  dsimp only
  have hx : ((((la ++ (List.replicate g 1073741824 ++ lb)).length : Nat) : Int) != wrap64 (wrap64 ((la.length : Int) + (g : Int)) + (lb.length : Int))) = false := by
    rw [w64 (n := (la.length : Int) + (g : Int)) (by omega) (by omega), w64 (by omega) (by omega), hl]
    exact bne_eq_false_iff_eq.2 (by omega)
  rw [hx]
  exact sp_j1 s e s2 la lb g hg h0 h1 e0 e1 ha hb sma smb hs2'.symm
theorem SeriesParts : shapesearchlaw09_SeriesParts.Pure := by
  intro l0 a1 a2 a3 h1 h2 h3 k1 k2 k3
  have q1 := b_u8 k1
  have q2 := b_u8 k2
  have q3 := b_u8 k3
  obtain ⟨g, rfl⟩ := Int.eq_ofNat_of_zero_le q3.1
  refine EvP.rounds ?_
  unfold shapesearchlaw09_SeriesParts.f
  refine EvP.bind (keep_New l0 h3 h1) (fun s hs => EvP.bind (keep_Series s.1 s.2 hs 40 (by omega)) (fun x hx => ?_))
  obtain ⟨st, e, l, _⟩ := x
  obtain ⟨_, x1, x2, x3, x4, x5, x6⟩ := hx
  dsimp only at *
  have ol := ok9_of (s := st) (e := e) (l := l) x1 (by omega) x3 x4 (by omega) x6
  rw [w64 (n := a1) (by omega) (by omega), w64 (n := a2) (by omega) (by omega), w_succ (by omega)]
  refine EvP.bind (keep_Mod a1 ((l.length + 1 : Nat) : Int) (by omega) (by omega) (by omega) (by omega)) (fun t ht => ?_)
  obtain ⟨i, rfl⟩ := Int.eq_ofNat_of_zero_le ht.1
  have hi : i ≤ l.length := by omega
  rw [show wrap64 (wrap64 ((l.length : Int) - (i : Int)) + 1) = ((l.length - i + 1 : Nat) : Int) by rw [w64 (n := (l.length : Int) - (i : Int)) (by omega) (by omega), w64 (by omega) (by omega)]; omega]
  refine EvP.bind (keep_Mod a2 ((l.length - i + 1 : Nat) : Int) (by omega) (by omega) (by omega) (by omega)) (fun u hu => ?_)
  obtain ⟨k, rfl⟩ := Int.eq_ofNat_of_zero_le hu.1
  have hk : i + k ≤ l.length := by omega
  obtain ⟨m0, m1⟩ := mul_sm (e := e) (n := i) (N := 40) (by omega) x4 (by omega)
  have c1 := Cut_in ol 0 i (by omega) (by omega)
  have c2 := Cut_in ol i k hk (by rw [Int.mul_comm]; omega)
  have c3 := Cut_in ol 0 (i + k) (by omega) (by omega)
  have z0 : st + ((0 : Nat) : Int) * e = st := by omega
  rw [z0, Nat.zero_add, List.drop_zero] at c1 c3
  rw [Int.mul_comm] at c2
  have la : (l.take i).length = i := by rw [List.length_take]; omega
  have lb : ((l.take (i + k)).drop i).length = k := by rw [List.length_drop, List.length_take]; omega
  have hcat : l.take i ++ (List.replicate 0 1073741824 ++ (l.take (i + k)).drop i) = l.take (i + k) := by
    rw [List.replicate_zero, List.nil_append]
    have h := List.take_append_drop i (l.take (i + k))
    rw [List.take_take, Nat.min_eq_left (by omega)] at h
    exact h
  have sma := x6.take i
  have smb := (x6.take (i + k)).drop i
  have oa := ok9_of (s := st) (e := e) (l := l.take i) x1 (by omega) x3 x4 (by omega) sma
  have ob := ok9_of (s := st + e * (i : Int)) (e := e) (l := (l.take (i + k)).drop i) (by omega) (by omega) x3 x4 (by omega) smb
  have od := ok9_of (s := st) (e := e) (l := l.take (i + k)) x1 (by omega) x3 x4 (by rw [List.length_take]; omega) (x6.take (i + k))
  have hj := Join_is oa ob 0 (by rw [la]; rfl) (by rw [hcat]; exact od)
  rw [hcat] at hj
  rw [show wrap64 ((i : Int) + (k : Int)) = ((i + k : Nat) : Int) by rw [w64 (by omega) (by omega)]; omega]
  have hsame := Same_refl st e (l.take (i + k)) (by rw [List.length_take]; omega)
  refine EvP.bind1 c1 (EvP.bind1 c2 (EvP.bind1 hj (EvP.bind1 c3 (EvP.pos rfl (EvP.pos rfl (EvP.pos rfl (EvP.pos rfl (EvP.bind1 hsame ?_))))))))
  have := sp_j0 st e (st + e * (i : Int)) (l.take i) ((l.take (i + k)).drop i) l g (by omega) x1 x2 x3 x4 (by omega) (by omega) sma smb (by rw [la])
  rw [la, lb] at this
  exact Ev.evp this
end Go.Proofs.Ytklghejinlhjpaa.Pure
