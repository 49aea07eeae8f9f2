/- This file proves that a profile has the distance to each window, and is 0 where the query was taken from. -/
import Derived.Test.YtmkjmplkokfoiaaPEuclidProfilesx5
import Derived.Test.YtmkjmplkokfoiaaBase
import Derived.Test.YtmkjmplkokfoiaaMathEu
set_option linter.unusedVariables false
namespace Go.Proofs.Ytmkjmplkokfoiaa.Pure
open Go.RowKit Go.Proofs.Ytmkjmplkokfoiaa.PEuclidProfiles Go.Proofs.YtmkjmplkokfoiaaW.PrintWords Go.Proofs.YtmkjmplkokfoiaaW.PrintLast Go.Proofs.YtmkjmplkokfoiaaW.PrintMore Go.Proofs.Ytmkjmplkokfoiaa.Base
/-! ### numbers out of a list -/
theorem keep_New (l0 : List Int) (h : ∀ x ∈ l0, (Lit.int .i64 x).wf = true) (hl : l0.length ≤ maxLen) : EvP (fun _ => shapesearchkeep_New.f l0) (fun r => Src r.1 r.2) := by
  have e : mn (l0.length : Int) 2000 = ((min l0.length 2000 : Nat) : Int) := by unfold mn; split <;> omega
  unfold shapesearchkeep_New.f
  rw [e]
  refine EvP.pos (by omega) (EvP.pos (by omega) (EvP.ret ?_))
  refine ⟨Int.le_refl _, by omega, by rw [List.length_take]; omega, fun x hx => b_i64 (h x (List.mem_of_mem_take hx))⟩
theorem keep_Raw (s : List Int) (a : Int) (h : Src s a) : EvP (fun _ => shapesearchkeep_Src_Raw.f s a) (fun r => Src s r.2 ∧ -9223372036854775808 ≤ r.1 ∧ r.1 ≤ 9223372036854775807) := by
  obtain ⟨h0, h1, h2, h3⟩ := h
  unfold shapesearchkeep_Src_Raw.f
  refine EvP.ite (fun hc => EvP.ret ⟨⟨h0, h1, h2, h3⟩, by omega, by omega⟩) (fun hc => ?_)
  have hw : wrap64 (a + 1) = a + 1 := w64 (by omega) (by omega)
  have hw2 : wrap64 (a + 1 - 1) = a := by rw [w64 (by omega) (by omega)]; omega
  rw [hw, hw2]
  have hm := h3 _ (rd_mem s a h0 (by omega))
  exact EvP.pos h0 (EvP.pos (by omega) (EvP.ret ⟨⟨by omega, by omega, h2, h3⟩, hm⟩))
theorem keep_Mod (a n : Int) (ha : -9223372036854775808 ≤ a) (ha' : a ≤ 9223372036854775807) (hn : 1 ≤ n) (hn' : n ≤ 9223372036854775807) : EvP (fun _ => shapesearchkeep_Mod.f a n) (fun t => 0 ≤ t ∧ t < n) := by
  have h1 := Int.tmod_lt_of_pos a (show 0 < n by omega)
  have h2 := Int.lt_tmod_of_pos a (show 0 < n by omega)
  unfold shapesearchkeep_Mod.f
  refine EvP.neg (by omega) (EvP.neg (by omega) (EvP.ite (fun hc => EvP.ret ?_) (fun hc => EvP.ret ?_)))
  · rw [w64 (by omega) (by omega)]
    omega
  · omega
theorem keep_N (s : List Int) (a n : Int) (h : Src s a) (hn : 1 ≤ n) (hn' : n ≤ 9223372036854775807) : EvP (fun _ => shapesearchkeep_Src_N.f s a n) (fun r => Src s r.2 ∧ 0 ≤ r.1 ∧ r.1 < n) := by
  unfold shapesearchkeep_Src_N.f
  refine EvP.bind (keep_Raw s a h) (fun x hx => EvP.bind (keep_Mod x.1 n hx.2.1 hx.2.2 hn hn') (fun t ht => EvP.ret ⟨hx.1, ht⟩))
theorem keep_Range (s : List Int) (a lo hi : Int) (h : Src s a) (hlo : -1000000000000 ≤ lo) (hlh : lo ≤ hi) (hhi : hi ≤ 1000000000000) : EvP (fun _ => shapesearchkeep_Src_Range.f s a lo hi) (fun r => Src s r.2 ∧ lo ≤ r.1 ∧ r.1 ≤ hi) := by
  have e1 : wrap64 (hi - lo) = hi - lo := w64 (by omega) (by omega)
  have e2 : wrap64 (hi - lo + 1) = hi - lo + 1 := w64 (by omega) (by omega)
  unfold shapesearchkeep_Src_Range.f
  rw [e1, e2]
  refine EvP.bind (keep_N s a (hi - lo + 1) h (by omega) (by omega)) (fun x hx => EvP.ret ⟨hx.1, ?_⟩)
  have e3 : wrap64 (lo + x.1) = lo + x.1 := w64 (by omega) (by omega)
  show lo ≤ wrap64 (lo + x.1) ∧ wrap64 (lo + x.1) ≤ hi
  rw [e3]
  omega
theorem keep_Pick (s : List Int) (a : Int) (l : List Int) (h : Src s a) (hl : 1 ≤ l.length) (hl' : l.length ≤ 1000000) : EvP (fun _ => shapesearchkeep_Src_Pick.f s a l) (fun r => Src s r.2 ∧ r.1 ∈ l) := by
  unfold shapesearchkeep_Src_Pick.f
  exact EvP.bind (keep_N s a l.length h (by omega) (by omega)) (fun x hx => EvP.pos hx.2.1 (EvP.pos hx.2.2 (EvP.ret ⟨hx.1, rd_mem l x.1 hx.2.1 hx.2.2⟩)))
theorem keep_clip (x : Int) : EvP (fun _ => shapesearchkeep_clip.f x) (fun t => -1000 ≤ t ∧ t ≤ 1000) := by
  unfold shapesearchkeep_clip.f
  refine EvP.ret ⟨le_mn (Int.le_trans (by omega) (le_mx_right _ _)) (by omega), mn_le_right _ _⟩
theorem keep_List_l0 (s : List Int) (n kind size : Int) (hs : 1 ≤ size ∧ size ≤ 1000) (hn : 0 ≤ n ∧ n ≤ 100000) (d : Nat) :
    ∀ (x : Int) (out : List Int) (a : Int), Src s a → Smp out → -1000 ≤ x → x ≤ 1000 → out.length + d = n →
      EvP (fun k => shapesearchkeep_Src_List.l0 k n kind size x out out.length s a) (fun r => Src s r.2 ∧ Smp r.1 ∧ (r.1.length : Int) = n) := by
  have es : wrap64 (-size) = -size := w64 (by omega) (by omega)
  induction d with
  | zero =>
    intro x out a h ho hx hx' hd
    refine EvP.step (fun k => by rw [shapesearchkeep_Src_List.l0]) ?_
    exact EvP.neg (by omega) (EvP.ret ⟨h, ho, by dsimp only; omega⟩)
  | succ d ih =>
    intro x out a h ho hx hx' hd
    have ew : wrap64 ((out.length : Int) + 1) = (out.length : Int) + 1 := w64 (by omega) (by omega)
    have el : ∀ y : Int, (out.length : Int) + 1 = ((out ++ [y]).length : Nat) := fun y => by simp
    have push : ∀ (x' y a' : Int), Src s a' → -1000 ≤ x' → x' ≤ 1000 → -1000 ≤ y → y ≤ 1000 → EvP (fun k => shapesearchkeep_Src_List.l0 k n kind size x' (out ++ [y]) (wrap64 ((out.length : Int) + 1)) s a') (fun r => Src s r.2 ∧ Smp r.1 ∧ (r.1.length : Int) = n) := by
      intro x' y a' ha h1 h2 h3 h4
      rw [ew, el y]
      exact ih x' (out ++ [y]) a' ha (ho.snoc h3 h4) h1 h2 (by simp; omega)
    have hL : out.length < 17592186044416 := by omega
    have j3 : ∀ b : Bool, EvP (fun k => shapesearchkeep_Src_List.j3 k n kind size x out out.length kind b s a) (fun r => Src s r.2 ∧ Smp r.1 ∧ (r.1.length : Int) = n) := by
      intro b
      refine EvP.step (fun k => by rw [shapesearchkeep_Src_List.j3]) ?_
      refine EvP.ite (fun _ => ?_) (fun _ => EvP.ite (fun _ => ?_) (fun _ => ?_))
      · rw [es]
        refine EvP.bind (keep_Range s a (-size) size h (by omega) (by omega) (by omega)) (fun q hq => ?_)
        refine EvP.bind (keep_clip _) (fun t ht => EvP.pos hL (push t t q.2 hq.1 ht.1 ht.2 ht.1 ht.2))
      · refine EvP.bind (keep_N s a 4 h (by omega) (by omega)) (fun q hq => EvP.ite (fun _ => ?_) (fun _ => EvP.pos hL (push x x q.2 hq.1 hx hx' hx hx')))
        rw [es]
        exact EvP.bind (keep_Range s q.2 (-size) size hq.1 (by omega) (by omega) (by omega)) (fun p hp => EvP.pos hL (push p.1 p.1 p.2 hp.1 (by omega) (by omega) (by omega) (by omega)))
      · refine EvP.bind (keep_Pick s a [-1000, 1000, 1000, 0] h (by simp) (by simp)) (fun q hq => EvP.pos hL (push x q.1 q.2 hq.1 hx hx' ?_ ?_)) <;>
        · have := hq.2
          simp at this
          omega
    have j2 : ∀ b : Bool, EvP (fun k => shapesearchkeep_Src_List.j2 k n kind size x out out.length kind b s a) (fun r => Src s r.2 ∧ Smp r.1 ∧ (r.1.length : Int) = n) := by
      intro b
      refine EvP.step (fun k => by rw [shapesearchkeep_Src_List.j2]) ?_
      refine EvP.ite (fun _ => ?_) (fun _ => EvP.ite (fun _ => j3 _) (fun _ => j3 _))
      rw [es]
      exact EvP.bind (keep_Range s a (-size) size h (by omega) (by omega) (by omega)) (fun q hq => EvP.pos hL (push x q.1 q.2 hq.1 hx hx' (by omega) (by omega)))
    refine EvP.step (fun k => by rw [shapesearchkeep_Src_List.l0]) ?_
    exact EvP.pos (by omega) (EvP.ite (fun _ => j2 _) (fun _ => j2 _))
theorem keep_List (s : List Int) (a n : Int) (h : Src s a) (hn : 0 ≤ n) (hn' : n ≤ 100000) : EvP (fun k => shapesearchkeep_Src_List.f k s a n) (fun r => Src s r.2 ∧ Smp r.1 ∧ (r.1.length : Int) = n) := by
  unfold shapesearchkeep_Src_List.f
  refine EvP.bind (keep_N s a 6 h (by omega) (by omega)) (fun p hp => EvP.bind (keep_Pick s p.2 [1, 3, 10, 100, 1000] hp.1 (by simp) (by simp)) (fun q hq => ?_))
  have hq2 : 1 ≤ q.1 ∧ q.1 ≤ 1000 := by
    have := hq.2
    simp at this
    omega
  have j0 : ∀ x a', Src s a' → -1000 ≤ x → x ≤ 1000 → EvP (fun k => shapesearchkeep_Src_List.j0 k n p.1 q.1 x s a') (fun r => Src s r.2 ∧ Smp r.1 ∧ (r.1.length : Int) = n) := by
    intro x a' ha h1 h2
    refine EvP.step (fun k => by rw [shapesearchkeep_Src_List.j0]) ?_
    exact keep_List_l0 s n p.1 q.1 hq2 ⟨hn, hn'⟩ n.toNat x [] a' ha Smp.nil h1 h2 (by simp; omega)
  refine EvP.bind (keep_N s q.2 3 hq.1 (by omega) (by omega)) (fun r hr => EvP.ite (fun _ => ?_) (fun _ => j0 0 r.2 hr.1 (by omega) (by omega)))
  exact EvP.bind (keep_Range s r.2 (-1000) 1000 hr.1 (by omega) (by omega) (by omega)) (fun v hv => j0 v.1 v.2 hv.1 (by omega) (by omega))
/-! ### windows, and their distances -/
def lenb (x : List Int) : Bool := decide (2 ≤ x.length ∧ x.length ≤ 32)
def smpb (x : List Int) : Bool := x.all fun v => decide (-1000 ≤ v ∧ v ≤ 1000)
theorem smpb_iff (x : List Int) : smpb x = true ↔ Smp x := by
  unfold smpb Smp
  simp [List.all_eq_true]
theorem euclid_length_is (x : List Int) : euclid_length.f x = some (lenb x) := by
  unfold euclid_length.f lenb
  split
  · rename_i h
    congr 1
    rw [Bool.eq_iff_iff]
    simp
    omega
  · rename_i h
    congr 1
    symm
    simp
    omega
theorem euclid_samples_l0 (x : List Int) (hn : x.length ≤ 1000000000) (d : Nat) : ∀ i : Nat, i + d = x.length → Ev (fun k => euclid_samples.l0 k x (x.length : Int) (i : Int)) (smpb (x.drop i)) := by
  induction d with
  | zero =>
    intro i hi
    refine Ev.step (fun k => by rw [euclid_samples.l0]) (Ev.neg (by omega) ?_)
    rw [List.drop_eq_nil_of_le (by omega)]
    exact Ev.now _
  | succ d ih =>
    intro i hi
    have hlt : i < x.length := by omega
    refine Ev.step (fun k => by rw [euclid_samples.l0]) (Ev.pos (by omega) (Ev.pos (by omega) (Ev.pos (by omega) ?_)))
    have e : wrap64 ((i : Int) + 1) = ((i + 1 : Nat) : Int) := by rw [w64 (by omega) (by omega)]; omega
    rw [rd_nat x i hlt, List.drop_eq_getElem_cons hlt, e]
    have hc : smpb (x[i] :: x.drop (i + 1)) = (decide (-1000 ≤ x[i] ∧ x[i] ≤ 1000) && smpb (x.drop (i + 1))) := by unfold smpb; rw [List.all_cons]
    rw [hc]
    by_cases h1 : x[i] < -1000
    · rw [decide_eq_false (by omega)]
      exact Ev.pos h1 (Ev.now _)
    · refine Ev.neg h1 ?_
      by_cases h2 : x[i] > 1000
      · rw [decide_eq_false (by omega)]
        exact Ev.pos h2 (Ev.now _)
      · refine Ev.neg h2 ?_
        rw [decide_eq_true (by omega), Bool.true_and]
        exact ih (i + 1) (by omega)
theorem euclid_samples_is (x : List Int) (hn : x.length ≤ 1000000000) : Ev (fun k => euclid_samples.f k x) (smpb x) := by
  have := euclid_samples_l0 x hn x.length 0 (by omega)
  exact this
/-- The first error of two windows of one length. -/
def chk (x y : List Int) : Int := if lenb x = true ∧ lenb y = true then (if smpb x = true ∧ smpb y = true then (if x.length = y.length then 0 else 8) else 12) else 8
theorem euclid_check_is (x y : List Int) (hx : x.length ≤ 1000000000) (hy : y.length ≤ 1000000000) : Ev (fun k => euclid_check.f k x y) (chk x y) := by
  unfold chk
  have j1 : ∀ b : Bool, Ev (fun k => euclid_check.j1 k x y b) (if b = true then 12 else if x.length = y.length then 0 else 8) := by
    intro b
    refine Ev.step (fun k => by rw [euclid_check.j1]) ?_
    cases b with
    | true => exact Ev.pos rfl (Ev.now _)
    | false =>
      refine Ev.neg (by simp) ?_
      by_cases h : x.length = y.length
      · have e : (if false = true then (12 : Int) else if x.length = y.length then 0 else 8) = 0 := by simp [h]
        rw [e]
        exact Ev.pos (by omega) (Ev.now _)
      · have e : (if false = true then (12 : Int) else if x.length = y.length then 0 else 8) = 8 := by simp [h]
        rw [e]
        exact Ev.neg (by omega) (Ev.now _)
  have j0 : ∀ b : Bool, Ev (fun k => euclid_check.j0 k x y b) (if b = true then 8 else if smpb x = true ∧ smpb y = true then (if x.length = y.length then 0 else 8) else 12) := by
    intro b
    refine Ev.step (fun k => by rw [euclid_check.j0]) ?_
    cases b with
    | true => exact Ev.pos rfl (Ev.now _)
    | false =>
      refine Ev.neg (by simp) (Ev.bind (euclid_samples_is x hx) ?_)
      rw [if_neg (by simp)]
      cases hsx : smpb x with
      | true =>
        refine Ev.pos rfl (Ev.bind (euclid_samples_is y hy) ?_)
        have := j1 (!smpb y)
        cases hsy : smpb y <;> simpa [hsy] using this
      | false =>
        refine Ev.neg (by simp) ?_
        simpa using j1 true
  unfold euclid_check.f
  rw [euclid_length_is x, euclid_length_is y]
  refine Ev.bind (Ev.now _) ?_
  cases hlx : lenb x with
  | true =>
    refine Ev.pos rfl (Ev.bind (Ev.now _) ?_)
    have := j0 (!lenb y)
    cases hly : lenb y <;> simpa [hly] using this
  | false =>
    refine Ev.neg (by simp) ?_
    simpa using j0 true
theorem euclid_square_l0 (x y : List Int) (hx : Smp x) (hy : Smp y) (hl : x.length = y.length) (hn : x.length ≤ 100000) (d : Nat) :
    ∀ (i : Nat) (s : Int), i + d = x.length → 0 ≤ s → s ≤ 4000000 * i → Ev (fun k => euclid_square.l0 k y s x (x.length : Int) (i : Int)) (s + sqd (x.drop i) (y.drop i)) := by
  induction d with
  | zero =>
    intro i s hi h0 h1
    refine Ev.step (fun k => by rw [euclid_square.l0]) (Ev.neg (by omega) ?_)
    rw [List.drop_eq_nil_of_le (by omega)]
    simp only [sqd, Int.add_zero]
    exact Ev.now _
  | succ d ih =>
    intro i s hi h0 h1
    have hlt : i < x.length := by omega
    have hlt' : i < y.length := by omega
    have bx := hx x[i] (List.getElem_mem _)
    have by_ := hy y[i] (List.getElem_mem _)
    refine Ev.step (fun k => by rw [euclid_square.l0]) (Ev.pos (by omega) (Ev.pos (by omega) (Ev.pos (by omega) (Ev.pos (by omega) ?_))))
    have e : wrap64 ((i : Int) + 1) = ((i + 1 : Nat) : Int) := by rw [w64 (by omega) (by omega)]; omega
    have b1 := sqnn (x[i] - y[i])
    have b2 := abs_sq (a := x[i] - y[i]) (m := 2000) (by omega) (by omega)
    rw [rd_nat x i hlt, rd_nat y i hlt', List.drop_eq_getElem_cons hlt, List.drop_eq_getElem_cons hlt', e]
    have e1 : wrap64 (x[i] - y[i]) = x[i] - y[i] := w64 (by omega) (by omega)
    rw [e1]
    have e2 : wrap64 ((x[i] - y[i]) * (x[i] - y[i])) = (x[i] - y[i]) * (x[i] - y[i]) := w64 (by omega) (by omega)
    rw [e2]
    have e3 : wrap64 (s + (x[i] - y[i]) * (x[i] - y[i])) = s + (x[i] - y[i]) * (x[i] - y[i]) := w64 (by omega) (by omega)
    rw [e3]
    simp only [sqd]
    rw [← Int.add_assoc]
    exact ih (i + 1) _ (by omega) (by omega) (by omega)
theorem euclid_square_is (x y : List Int) (hx : Smp x) (hy : Smp y) (hl : x.length = y.length) (hn : x.length ≤ 100000) : Ev (fun k => euclid_square.f k x y) (sqd x y) := by
  have := euclid_square_l0 x y hx hy hl hn x.length 0 0 (by omega) (by omega) (by omega)
  simp only [List.drop_zero, Int.zero_add] at this
  exact this
theorem chk_ok {x y : List Int} (hx : Smp x) (hy : Smp y) (h2 : 2 ≤ x.length) (h32 : x.length ≤ 32) (hl : x.length = y.length) : chk x y = 0 := by
  unfold chk lenb
  rw [if_pos ⟨decide_eq_true ⟨h2, h32⟩, decide_eq_true (by omega)⟩, if_pos ⟨(smpb_iff x).2 hx, (smpb_iff y).2 hy⟩, if_pos hl]
theorem chk_zero {x y : List Int} (h : chk x y = 0) : Smp x ∧ Smp y ∧ 2 ≤ x.length ∧ x.length ≤ 32 ∧ x.length = y.length := by
  unfold chk at h
  split at h
  · rename_i h1
    split at h
    · rename_i h2
      split at h
      · rename_i h3
        have := of_decide_eq_true h1.1
        exact ⟨(smpb_iff x).1 h2.1, (smpb_iff y).1 h2.2, this.1, this.2, h3⟩
      · omega
    · omega
  · omega
theorem euclid_Distance_is (x y : List Int) (hx : x.length ≤ 1000000000) (hy : y.length ≤ 1000000000) : Ev (fun k => euclid_Distance.f k x y) (if chk x y = 0 then (sqd x y, 0) else (0, chk x y)) := by
  unfold euclid_Distance.f
  refine Ev.bind (euclid_check_is x y hx hy) ?_
  by_cases h : chk x y = 0
  · rw [if_pos h]
    obtain ⟨h1, h2, h3, h4, h5⟩ := chk_zero h
    exact Ev.pos h (Ev.bind (euclid_square_is x y h1 h2 h5 (by omega)) (Ev.now _))
  · rw [if_neg h]
    exact Ev.neg h (Ev.now _)
theorem euclid_Distance_ok {x y : List Int} (hx : Smp x) (hy : Smp y) (h2 : 2 ≤ x.length) (h32 : x.length ≤ 32) (hl : x.length = y.length) : Ev (fun k => euclid_Distance.f k x y) (sqd x y, 0) := by
  have := euclid_Distance_is x y (by omega) (by omega)
  rwa [if_pos (chk_ok hx hy h2 h32 hl)] at this
theorem sqd_big {x y : List Int} (hx : Smp x) (hy : Smp y) (h32 : x.length ≤ 32) : sqd x y ≤ 128000000 := by
  have := sqd_le 1000 x y hx hy
  omega
theorem prof_succ (q l : List Int) (i : Nat) : prof q l (i + 1) = prof q l i ++ [sqd q ((l.take (i + q.length)).drop i)] := by
  unfold prof
  rw [List.range_succ, List.map_append]
  rfl
theorem prof_length (q l : List Int) (n : Nat) : (prof q l n).length = n := by simp [prof]
theorem euclid_Profile_l0 (q l : List Int) (n : Nat) (hq : Smp q) (hl : Smp l) (hq32 : q.length ≤ 32) (hl2 : l.length ≤ 2000) (hn : n + q.length ≤ l.length + 1) (d : Nat) :
    ∀ i : Nat, i + d = n → Ev (fun k => euclid_Profile.l0 k q l (q.length : Int) (prof q l i) (n : Int) (i : Int)) (prof q l n, 0) := by
  induction d with
  | zero =>
    intro i hi
    refine Ev.step (fun k => by rw [euclid_Profile.l0]) (Ev.neg (by omega) ?_)
    obtain rfl : i = n := by omega
    exact Ev.now _
  | succ d ih =>
    intro i hi
    have e0 : wrap64 ((i : Int) + (q.length : Int)) = ((i + q.length : Nat) : Int) := by rw [w64 (by omega) (by omega)]; omega
    have e : wrap64 ((i : Int) + 1) = ((i + 1 : Nat) : Int) := by rw [w64 (by omega) (by omega)]; omega
    have lw : ((l.take (i + q.length)).drop i).length = q.length := by rw [List.length_drop, List.length_take]; omega
    refine Ev.step (fun k => by rw [euclid_Profile.l0]) ?_
    rw [e0, e, Int.toNat_natCast, Int.toNat_natCast]
    refine Ev.pos (by omega) (Ev.pos (by omega) (Ev.pos (by omega) (Ev.pos (by omega) (Ev.bind (euclid_square_is q ((l.take (i + q.length)).drop i) hq ((hl.take _).drop _) (by omega) (by omega)) (Ev.pos (by rw [prof_length]; omega) ?_)))))
    rw [← prof_succ]
    exact ih (i + 1) (by omega)
theorem euclid_Profile_ok {q l : List Int} (hq : Smp q) (hl : Smp l) (h2 : 2 ≤ q.length) (hq32 : q.length ≤ 32) (hl2 : l.length ≤ 2000) : Ev (fun k => euclid_Profile.f k q l) (prof q l (l.length + 1 - q.length), 0) := by
  unfold euclid_Profile.f
  rw [euclid_length_is]
  have hlb : lenb q = true := decide_eq_true ⟨h2, hq32⟩
  refine Ev.bind (Ev.now _) (Ev.pos hlb (Ev.bind (euclid_samples_is q (by omega)) (Ev.pos ((smpb_iff q).2 hq) (Ev.neg (by omega) (Ev.bind (euclid_samples_is l (by omega)) (Ev.pos ((smpb_iff l).2 hl) ?_))))))
  have e1 : wrap64 ((l.length : Int) - (q.length : Int)) = (l.length : Int) - (q.length : Int) := w64 (by omega) (by omega)
  have e2 : wrap64 ((l.length : Int) - (q.length : Int) + 1) = (l.length : Int) - (q.length : Int) + 1 := w64 (by omega) (by omega)
  have e3 : mx 0 ((l.length : Int) - (q.length : Int) + 1) = ((l.length + 1 - q.length : Nat) : Int) := by unfold mx; split <;> omega
  rw [e1, e2, e3]
  by_cases h : q.length ≤ l.length
  · exact euclid_Profile_l0 q l (l.length + 1 - q.length) hq hl hq32 hl2 (by omega) (l.length + 1 - q.length) 0 (by omega)
  · have e4 : l.length + 1 - q.length = 0 := by omega
    rw [e4]
    refine Ev.step (fun k => by rw [euclid_Profile.l0]) (Ev.neg (by omega) ?_)
    exact Ev.now _
theorem prof_at (q l : List Int) (n i : Nat) (h : i < n) : rd (prof q l n) (i : Int) = sqd q ((l.take (i + q.length)).drop i) := by
  rw [rd_nat _ i (by rw [prof_length]; exact h)]
  simp [prof]
theorem awake_is : Ev (fun k => shapesearchlaw12_awake.f k) true := Ev.of shapesearchlaw12_awake.mono (k := 30) (by decide +kernel)
theorem profiles_l0 (z q : List Int) (hz : Smp z) (hq : Smp q) (h2 : 2 ≤ q.length) (h32 : q.length ≤ 32) (hz2 : z.length ≤ 2000) (n : Nat) (hn : n + q.length ≤ z.length + 1) (d : Nat) :
    ∀ i : Nat, i + d = n → EvP (fun k => shapesearchlaw12_EuclidProfiles.l0 k z (q.length : Int) q (prof q z n) (n : Int) (i : Int)) (fun r => r = true) := by
  induction d with
  | zero =>
    intro i hi
    refine EvP.step (fun k => by rw [shapesearchlaw12_EuclidProfiles.l0]) (EvP.neg (by omega) ?_)
    exact EvP.bind1 awake_is (EvP.ret rfl)
  | succ d ih =>
    intro i hi
    have e0 : wrap64 ((i : Int) + (q.length : Int)) = ((i + q.length : Nat) : Int) := by rw [w64 (by omega) (by omega)]; omega
    have e : wrap64 ((i : Int) + 1) = ((i + 1 : Nat) : Int) := by rw [w64 (by omega) (by omega)]; omega
    have lw : ((z.take (i + q.length)).drop i).length = q.length := by rw [List.length_drop, List.length_take]; omega
    refine EvP.step (fun k => by rw [shapesearchlaw12_EuclidProfiles.l0]) ?_
    rw [e0, e, Int.toNat_natCast, Int.toNat_natCast]
    refine EvP.pos (by omega) (EvP.pos (by omega) (EvP.pos (by omega) (EvP.pos (by omega) ?_)))
    refine EvP.bind1 (euclid_Distance_ok hq ((hz.take (i + q.length)).drop i) h2 h32 (by omega)) (EvP.pos rfl (EvP.pos (by rw [prof_length]; omega) (EvP.pos ?_ (ih (i + 1) (by omega)))))
    rw [prof_at q z n i (by omega)]
theorem EuclidProfiles : shapesearchlaw12_EuclidProfiles.Pure := by
  intro l0 a1 h1 h2 h3 h4
  have hb := b_u8 h4
  refine EvP.rounds ?_
  unfold shapesearchlaw12_EuclidProfiles.f
  refine EvP.bind (keep_New l0 h3 h1) (fun s hs => EvP.bind (keep_Range s.1 s.2 2 40 hs (by omega) (by omega) (by omega)) (fun n hn => EvP.bind (keep_List s.1 n.2 n.1 hn.1 (by omega) (by omega)) (fun z hz => ?_)))
  obtain ⟨hn1, hn2, hn3⟩ := hn
  obtain ⟨hz1, hz2, hz3⟩ := hz
  generalize z.1 = l at *
  have m1 := le_mn (a := (l.length : Int)) (b := 12) (c := 2) (by omega) (by omega)
  have m2 := mn_le_left (l.length : Int) 12
  have m3 := mn_le_right (l.length : Int) 12
  refine EvP.bind (keep_Range s.1 z.2 2 (mn (l.length : Int) 12) hz1 (by omega) m1 (by omega)) (fun m hm => ?_)
  obtain ⟨hm1, hm2, hm3⟩ := hm
  generalize m.1 = mm at *
  have e1 : wrap64 a1 = a1 := w64 (by omega) (by omega)
  have e2 : wrap64 ((l.length : Int) - mm) = (l.length : Int) - mm := w64 (by omega) (by omega)
  have e3 : wrap64 ((l.length : Int) - mm + 1) = (l.length : Int) - mm + 1 := w64 (by omega) (by omega)
  rw [e1, e2, e3]
  refine EvP.bind (keep_Mod a1 ((l.length : Int) - mm + 1) (by omega) (by omega) (by omega) (by omega)) (fun t ht => ?_)
  have e4 : wrap64 (t + mm) = t + mm := w64 (by omega) (by omega)
  rw [e4]
  obtain ⟨M, rfl⟩ := Int.eq_ofNat_of_zero_le (show 0 ≤ mm by omega)
  obtain ⟨A, rfl⟩ := Int.eq_ofNat_of_zero_le ht.1
  have e5 : ((A : Int) + (M : Int)).toNat = A + M := toNat_add A M
  rw [e5, Int.toNat_natCast]
  clear e1 e2 e3 e4 e5 h1 h2 h3 h4 hs hn1 hm1 hb
  refine EvP.pos (by omega) (EvP.pos (by omega) (EvP.pos (by omega) (EvP.bind1 (Ev.now _) ?_)))
  have lq : ((l.take (A + M)).drop A).length = M := by rw [List.length_drop, List.length_take]; omega
  have hq := (hz2.take (A + M)).drop A
  refine EvP.bind1 (euclid_Profile_ok hq hz2 (by omega) (by omega) (by omega)) ?_
  have e6 : l.length + 1 - ((l.take (A + M)).drop A).length = l.length + 1 - M := by rw [lq]
  rw [e6]
  refine EvP.pos rfl (EvP.pos (by rw [prof_length]; omega) (EvP.pos (by rw [prof_length]; omega) (EvP.pos ?_ ?_)))
  · rw [prof_at _ _ _ A (by omega), lq]
    exact (sqd_zero _ _ rfl).2 rfl
  · have := profiles_l0 l ((l.take (A + M)).drop A) hz2 hq (by omega) (by omega) (by omega) (l.length + 1 - M) (by omega) (l.length + 1 - M) 0 (by omega)
    rw [lq] at this
    dsimp only
    rw [prof_length]
    exact this

end Go.Proofs.Ytmkjmplkokfoiaa.Pure
