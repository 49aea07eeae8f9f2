/- This file proves that the gap of two windows is a ratio of at most 2, the same with the windows changed for one another and read backwards, 1 just where the product is 0 and one of them has spread, and below 1 just where the product is above 0 or neither has spread. -/
import Derived.Test.YtmckmjpfcgmalaaPNormalRangex8
import Derived.Test.YtmckmjpfcgmalaaBase
import Derived.Test.YtmckmjpfcgmalaaMathNo
set_option linter.unusedVariables false
namespace Go.Proofs.Ytmckmjpfcgmalaa.Pure
open Go.RowKit Go.Proofs.Ytmckmjpfcgmalaa.PNormalRange Go.Proofs.YtmckmjpfcgmalaaW.PrintWords Go.Proofs.YtmckmjpfcgmalaaW.PrintLast Go.Proofs.YtmckmjpfcgmalaaW.PrintMore Go.Proofs.Ytmckmjpfcgmalaa.Base
/-! ### numbers out of a list -/
theorem keep_New (l0 : List Int) (h : ∀ x ∈ l0, (Lit.int .i64 x).wf = true) (hl : l0.length ≤ maxLen) : EvP (fun _ => shapesearchkeep_New.f l0) (fun r => Src r.1 r.2) := by
  have e : mn (l0.length : Int) 2000 = ((min l0.length 2000 : Nat) : Int) := by unfold mn; split <;> omega
  unfold shapesearchkeep_New.f
  rw [e]
  refine EvP.pos (by omega) (EvP.pos (by omega) (EvP.ret ?_))
  refine ⟨Int.le_refl _, by omega, by rw [List.length_take]; omega, fun x hx => b_i64 (h x (List.mem_of_mem_take hx))⟩
theorem keep_Raw (s : List Int) (a : Int) (h : Src s a) : EvP (fun _ => shapesearchkeep_Src_Raw.f s a) (fun r => Src s r.2 ∧ -9223372036854775808 ≤ r.1 ∧ r.1 ≤ 9223372036854775807) := by
  obtain ⟨h0, h1, h2, h3⟩ := h
  unfold shapesearchkeep_Src_Raw.f
  refine EvP.ite (fun hc => EvP.ret ⟨⟨h0, h1, h2, h3⟩, by omega, by omega⟩) (fun hc => ?_)
  have hw : wrap64 (a + 1) = a + 1 := w64 (by omega) (by omega)
  have hw2 : wrap64 (a + 1 - 1) = a := by rw [w64 (by omega) (by omega)]; omega
  rw [hw, hw2]
  have hm := h3 _ (rd_mem s a h0 (by omega))
  exact EvP.pos h0 (EvP.pos (by omega) (EvP.ret ⟨⟨by omega, by omega, h2, h3⟩, hm⟩))
theorem keep_Mod (a n : Int) (ha : -9223372036854775808 ≤ a) (ha' : a ≤ 9223372036854775807) (hn : 1 ≤ n) (hn' : n ≤ 9223372036854775807) : EvP (fun _ => shapesearchkeep_Mod.f a n) (fun t => 0 ≤ t ∧ t < n) := by
  have h1 := Int.tmod_lt_of_pos a (show 0 < n by omega)
  have h2 := Int.lt_tmod_of_pos a (show 0 < n by omega)
  unfold shapesearchkeep_Mod.f
  refine EvP.neg (by omega) (EvP.neg (by omega) (EvP.ite (fun hc => EvP.ret ?_) (fun hc => EvP.ret ?_)))
  · rw [w64 (by omega) (by omega)]
    omega
  · omega
theorem keep_N (s : List Int) (a n : Int) (h : Src s a) (hn : 1 ≤ n) (hn' : n ≤ 9223372036854775807) : EvP (fun _ => shapesearchkeep_Src_N.f s a n) (fun r => Src s r.2 ∧ 0 ≤ r.1 ∧ r.1 < n) := by
  unfold shapesearchkeep_Src_N.f
  refine EvP.bind (keep_Raw s a h) (fun x hx => EvP.bind (keep_Mod x.1 n hx.2.1 hx.2.2 hn hn') (fun t ht => EvP.ret ⟨hx.1, ht⟩))
theorem keep_Range (s : List Int) (a lo hi : Int) (h : Src s a) (hlo : -1000000000000 ≤ lo) (hlh : lo ≤ hi) (hhi : hi ≤ 1000000000000) : EvP (fun _ => shapesearchkeep_Src_Range.f s a lo hi) (fun r => Src s r.2 ∧ lo ≤ r.1 ∧ r.1 ≤ hi) := by
  have e1 : wrap64 (hi - lo) = hi - lo := w64 (by omega) (by omega)
  have e2 : wrap64 (hi - lo + 1) = hi - lo + 1 := w64 (by omega) (by omega)
  unfold shapesearchkeep_Src_Range.f
  rw [e1, e2]
  refine EvP.bind (keep_N s a (hi - lo + 1) h (by omega) (by omega)) (fun x hx => EvP.ret ⟨hx.1, ?_⟩)
  have e3 : wrap64 (lo + x.1) = lo + x.1 := w64 (by omega) (by omega)
  show lo ≤ wrap64 (lo + x.1) ∧ wrap64 (lo + x.1) ≤ hi
  rw [e3]
  omega
theorem keep_Pick (s : List Int) (a : Int) (l : List Int) (h : Src s a) (hl : 1 ≤ l.length) (hl' : l.length ≤ 1000000) : EvP (fun _ => shapesearchkeep_Src_Pick.f s a l) (fun r => Src s r.2 ∧ r.1 ∈ l) := by
  unfold shapesearchkeep_Src_Pick.f
  exact EvP.bind (keep_N s a l.length h (by omega) (by omega)) (fun x hx => EvP.pos hx.2.1 (EvP.pos hx.2.2 (EvP.ret ⟨hx.1, rd_mem l x.1 hx.2.1 hx.2.2⟩)))
theorem keep_clip (x : Int) : EvP (fun _ => shapesearchkeep_clip.f x) (fun t => -1000 ≤ t ∧ t ≤ 1000) := by
  unfold shapesearchkeep_clip.f
  refine EvP.ret ⟨le_mn (Int.le_trans (by omega) (le_mx_right _ _)) (by omega), mn_le_right _ _⟩
theorem keep_List_l0 (s : List Int) (n kind size : Int) (hs : 1 ≤ size ∧ size ≤ 1000) (hn : 0 ≤ n ∧ n ≤ 100000) (d : Nat) :
    ∀ (x : Int) (out : List Int) (a : Int), Src s a → Smp out → -1000 ≤ x → x ≤ 1000 → out.length + d = n →
      EvP (fun k => shapesearchkeep_Src_List.l0 k n kind size x out out.length s a) (fun r => Src s r.2 ∧ Smp r.1 ∧ (r.1.length : Int) = n) := by
  have es : wrap64 (-size) = -size := w64 (by omega) (by omega)
  induction d with
  | zero =>
    intro x out a h ho hx hx' hd
    refine EvP.step (fun k => by rw [shapesearchkeep_Src_List.l0]) ?_
    exact EvP.neg (by omega) (EvP.ret ⟨h, ho, by dsimp only; omega⟩)
  | succ d ih =>
    intro x out a h ho hx hx' hd
    have ew : wrap64 ((out.length : Int) + 1) = (out.length : Int) + 1 := w64 (by omega) (by omega)
    have el : ∀ y : Int, (out.length : Int) + 1 = ((out ++ [y]).length : Nat) := fun y => by simp
    have push : ∀ (x' y a' : Int), Src s a' → -1000 ≤ x' → x' ≤ 1000 → -1000 ≤ y → y ≤ 1000 → EvP (fun k => shapesearchkeep_Src_List.l0 k n kind size x' (out ++ [y]) (wrap64 ((out.length : Int) + 1)) s a') (fun r => Src s r.2 ∧ Smp r.1 ∧ (r.1.length : Int) = n) := by
      intro x' y a' ha h1 h2 h3 h4
      rw [ew, el y]
      exact ih x' (out ++ [y]) a' ha (ho.snoc h3 h4) h1 h2 (by simp; omega)
    have hL : out.length < 17592186044416 := by omega
    have j3 : ∀ b : Bool, EvP (fun k => shapesearchkeep_Src_List.j3 k n kind size x out out.length kind b s a) (fun r => Src s r.2 ∧ Smp r.1 ∧ (r.1.length : Int) = n) := by
      intro b
      refine EvP.step (fun k => by rw [shapesearchkeep_Src_List.j3]) ?_
      refine EvP.ite (fun _ => ?_) (fun _ => EvP.ite (fun _ => ?_) (fun _ => ?_))
      · rw [es]
        refine EvP.bind (keep_Range s a (-size) size h (by omega) (by omega) (by omega)) (fun q hq => ?_)
        refine EvP.bind (keep_clip _) (fun t ht => EvP.pos hL (push t t q.2 hq.1 ht.1 ht.2 ht.1 ht.2))
      · refine EvP.bind (keep_N s a 4 h (by omega) (by omega)) (fun q hq => EvP.ite (fun _ => ?_) (fun _ => EvP.pos hL (push x x q.2 hq.1 hx hx' hx hx')))
        rw [es]
        exact EvP.bind (keep_Range s q.2 (-size) size hq.1 (by omega) (by omega) (by omega)) (fun p hp => EvP.pos hL (push p.1 p.1 p.2 hp.1 (by omega) (by omega) (by omega) (by omega)))
      · refine EvP.bind (keep_Pick s a [-1000, 1000, 1000, 0] h (by simp) (by simp)) (fun q hq => EvP.pos hL (push x q.1 q.2 hq.1 hx hx' ?_ ?_)) <;>
        · have := hq.2
          simp at this
          omega
    have j2 : ∀ b : Bool, EvP (fun k => shapesearchkeep_Src_List.j2 k n kind size x out out.length kind b s a) (fun r => Src s r.2 ∧ Smp r.1 ∧ (r.1.length : Int) = n) := by
      intro b
      refine EvP.step (fun k => by rw [shapesearchkeep_Src_List.j2]) ?_
      refine EvP.ite (fun _ => ?_) (fun _ => EvP.ite (fun _ => j3 _) (fun _ => j3 _))
      rw [es]
      exact EvP.bind (keep_Range s a (-size) size h (by omega) (by omega) (by omega)) (fun q hq => EvP.pos hL (push x q.1 q.2 hq.1 hx hx' (by omega) (by omega)))
    refine EvP.step (fun k => by rw [shapesearchkeep_Src_List.l0]) ?_
    exact EvP.pos (by omega) (EvP.ite (fun _ => j2 _) (fun _ => j2 _))
theorem keep_List (s : List Int) (a n : Int) (h : Src s a) (hn : 0 ≤ n) (hn' : n ≤ 100000) : EvP (fun k => shapesearchkeep_Src_List.f k s a n) (fun r => Src s r.2 ∧ Smp r.1 ∧ (r.1.length : Int) = n) := by
  unfold shapesearchkeep_Src_List.f
  refine EvP.bind (keep_N s a 6 h (by omega) (by omega)) (fun p hp => EvP.bind (keep_Pick s p.2 [1, 3, 10, 100, 1000] hp.1 (by simp) (by simp)) (fun q hq => ?_))
  have hq2 : 1 ≤ q.1 ∧ q.1 ≤ 1000 := by
    have := hq.2
    simp at this
    omega
  have j0 : ∀ x a', Src s a' → -1000 ≤ x → x ≤ 1000 → EvP (fun k => shapesearchkeep_Src_List.j0 k n p.1 q.1 x s a') (fun r => Src s r.2 ∧ Smp r.1 ∧ (r.1.length : Int) = n) := by
    intro x a' ha h1 h2
    refine EvP.step (fun k => by rw [shapesearchkeep_Src_List.j0]) ?_
    exact keep_List_l0 s n p.1 q.1 hq2 ⟨hn, hn'⟩ n.toNat x [] a' ha Smp.nil h1 h2 (by simp; omega)
  refine EvP.bind (keep_N s q.2 3 hq.1 (by omega) (by omega)) (fun r hr => EvP.ite (fun _ => ?_) (fun _ => j0 0 r.2 hr.1 (by omega) (by omega)))
  exact EvP.bind (keep_Range s r.2 (-1000) 1000 hr.1 (by omega) (by omega) (by omega)) (fun v hv => j0 v.1 v.2 hv.1 (by omega) (by omega))
theorem keep_Near_l0 (s x : List Int) (kind by_ q : Int) (hx : Smp x) (hn : 1 ≤ x.length) (hn' : x.length ≤ 100000) (d : Nat) :
    ∀ (out : List Int) (i : Int) (a : Int), Src s a → Smp out → out.length = x.length → 0 ≤ i → i + d = x.length →
      EvP (fun k => shapesearchkeep_Src_Near.l0 k x kind by_ q out (x.length : Int) i s a) (fun r => Src s r.2 ∧ Smp r.1 ∧ r.1.length = x.length) := by
  induction d with
  | zero =>
    intro out i a h ho hl hi hd
    refine EvP.step (fun k => by rw [shapesearchkeep_Src_Near.l0]) ?_
    exact EvP.neg (by omega) (EvP.ret ⟨h, ho, hl⟩)
  | succ d ih =>
    intro out i a h ho hl hi hd
    have ew : wrap64 (i + 1) = i + 1 := w64 (by omega) (by omega)
    have next : ∀ (out' : List Int) (a' : Int), Src s a' → Smp out' → out'.length = x.length → EvP (fun k => shapesearchkeep_Src_Near.l0 k x kind by_ q out' (x.length : Int) (wrap64 (i + 1)) s a') (fun r => Src s r.2 ∧ Smp r.1 ∧ r.1.length = x.length) := by
      intro out' a' h1 h2 h3
      rw [ew]
      exact ih out' (i + 1) a' h1 h2 h3 (by omega) (by omega)
    have put : ∀ (y a' : Int), Src s a' → -1000 ≤ y → y ≤ 1000 → EvP (fun k => shapesearchkeep_Src_Near.l0 k x kind by_ q (out.set (i : Int).toNat y) (x.length : Int) (wrap64 (i + 1)) s a') (fun r => Src s r.2 ∧ Smp r.1 ∧ r.1.length = x.length) :=
      fun y a' h1 h2 h3 => next _ a' h1 (ho.set _ h2 h3) (by simp [hl])
    have hlt : i < (out.length : Int) := by omega
    refine EvP.step (fun k => by rw [shapesearchkeep_Src_Near.l0]) ?_
    refine EvP.pos (by omega) ?_
    refine EvP.ite (fun _ => EvP.pos hi (EvP.pos hlt ?_)) (fun _ => ?_)
    · exact EvP.bind (keep_Range s a (-2) 2 h (by omega) (by omega) (by omega)) (fun p hp => EvP.bind (keep_clip _) (fun t ht => put t p.2 hp.1 ht.1 ht.2))
    refine EvP.ite (fun _ => EvP.pos hi (EvP.pos hlt ?_)) (fun _ => ?_)
    · exact EvP.bind (keep_clip _) (fun t ht => put t a h ht.1 ht.2)
    refine EvP.ite (fun _ => EvP.pos hi (EvP.pos hlt ?_)) (fun _ => ?_)
    · exact EvP.bind (keep_clip _) (fun t ht => put t a h ht.1 ht.2)
    refine EvP.ite (fun _ => ?_) (fun _ => ?_)
    · have e1 : wrap64 ((x.length : Int) - 1) = (x.length : Int) - 1 := w64 (by omega) (by omega)
      have e2 : wrap64 ((x.length : Int) - 1 - i) = (x.length : Int) - 1 - i := w64 (by omega) (by omega)
      rw [e1, e2]
      have hr := hx.at ((x.length : Int) - 1 - i) (by omega) (by omega)
      exact EvP.pos (by omega) (EvP.pos (by omega) (EvP.pos hi (EvP.pos hlt (put _ a h hr.1 hr.2))))
    refine EvP.ite (fun _ => ?_) (fun _ => ?_)
    · refine EvP.bind (keep_Range s a (-1) 1 h (by omega) (by omega) (by omega)) (fun p hp => ?_)
      refine EvP.bind (keep_Mod _ _ (w64_lo _) (w64_hi _) (by omega) (by omega)) (fun t ht => ?_)
      have hr := hx.at t ht.1 ht.2
      exact EvP.pos ht.1 (EvP.pos ht.2 (EvP.pos hi (EvP.pos hlt (put _ p.2 hp.1 hr.1 hr.2))))
    refine EvP.ite (fun _ => EvP.pos hi (EvP.pos hlt ?_)) (fun _ => next out a h ho hl)
    exact EvP.bind (keep_clip _) (fun t ht => put t a h ht.1 ht.2)
theorem keep_Near (s : List Int) (a : Int) (x : List Int) (h : Src s a) (hx : Smp x) (hn : 1 ≤ x.length) (hn' : x.length ≤ 100000) : EvP (fun k => shapesearchkeep_Src_Near.f k s a x) (fun r => Src s r.2 ∧ Smp r.1 ∧ r.1.length = x.length) := by
  unfold shapesearchkeep_Src_Near.f
  refine EvP.bind (keep_N s a 7 h (by omega) (by omega)) (fun p hp => EvP.bind (keep_Range s p.2 (-20) 20 hp.1 (by omega) (by omega) (by omega)) (fun q hq => EvP.bind (keep_Range s q.2 1 3 hq.1 (by omega) (by omega) (by omega)) (fun r hr => ?_)))
  refine EvP.bind (Ev.evp (Ev.now _)) (fun y hy => ?_)
  subst hy
  refine EvP.pos (by simp; omega) (EvP.bind (Ev.evp (Ev.now _)) (fun z hz => ?_))
  have hz' : z = x := hz
  rw [hz']
  exact keep_Near_l0 s x p.1 q.1 r.1 hx hn hn' x.length x 0 r.2 hr.1 hx rfl (by omega) (by omega)
theorem keep_Length (s : List Int) (a : Int) (h : Src s a) : EvP (fun _ => shapesearchkeep_Src_Length.f s a) (fun r => Src s r.2 ∧ 2 ≤ r.1 ∧ r.1 ≤ 32) := by
  unfold shapesearchkeep_Src_Length.f
  refine EvP.bind (keep_N s a 8 h (by omega) (by omega)) (fun p hp => EvP.ite (fun _ => ?_) (fun _ => ?_))
  · exact EvP.bind (keep_Range s p.2 13 32 hp.1 (by omega) (by omega) (by omega)) (fun q hq => EvP.ret ⟨hq.1, by have := hq.2; omega⟩)
  · exact EvP.bind (keep_Range s p.2 2 12 hp.1 (by omega) (by omega) (by omega)) (fun q hq => EvP.ret ⟨hq.1, by have := hq.2; omega⟩)
theorem keep_Pair (s : List Int) (a : Int) (h : Src s a) : EvP (fun k => shapesearchkeep_Src_Pair.f k s a) (fun r => Src s r.2.2 ∧ Smp r.1 ∧ Smp r.2.1 ∧ 2 ≤ r.1.length ∧ r.1.length ≤ 32 ∧ r.2.1.length = r.1.length) := by
  unfold shapesearchkeep_Src_Pair.f
  refine EvP.bind (keep_Length s a h) (fun n hn => EvP.bind (keep_List s n.2 n.1 hn.1 (by omega) (by omega)) (fun x hx => EvP.bind (keep_N s x.2 3 hx.1 (by omega) (by omega)) (fun p hp => ?_)))
  obtain ⟨hx0, hx1, hx2⟩ := hx
  refine EvP.ite (fun _ => ?_) (fun _ => ?_)
  · refine EvP.bind (keep_List s p.2 (x.1.length : Int) hp.1 (by omega) (by omega)) (fun y hy => EvP.ret ⟨hy.1, hx1, hy.2.1, by dsimp only; omega, by dsimp only; omega, by have := hy.2.2; dsimp only; omega⟩)
  · exact EvP.bind (keep_Near s p.2 x.1 hp.1 hx1 (by omega) (by omega)) (fun y hy => EvP.ret ⟨hy.1, hx1, hy.2.1, by dsimp only; omega, by dsimp only; omega, hy.2.2⟩)
/-! ### windows, and their distances -/
def lenb (x : List Int) : Bool := decide (2 ≤ x.length ∧ x.length ≤ 32)
def smpb (x : List Int) : Bool := x.all fun v => decide (-1000 ≤ v ∧ v ≤ 1000)
theorem smpb_iff (x : List Int) : smpb x = true ↔ Smp x := by
  unfold smpb Smp
  simp [List.all_eq_true]
theorem euclid_length_is (x : List Int) : euclid_length.f x = some (lenb x) := by
  unfold euclid_length.f lenb
  split
  · rename_i h
    congr 1
    rw [Bool.eq_iff_iff]
    simp
    omega
  · rename_i h
    congr 1
    symm
    simp
    omega
theorem euclid_samples_l0 (x : List Int) (hn : x.length ≤ 1000000000) (d : Nat) : ∀ i : Nat, i + d = x.length → Ev (fun k => euclid_samples.l0 k x (x.length : Int) (i : Int)) (smpb (x.drop i)) := by
  induction d with
  | zero =>
    intro i hi
    refine Ev.step (fun k => by rw [euclid_samples.l0]) (Ev.neg (by omega) ?_)
    rw [List.drop_eq_nil_of_le (by omega)]
    exact Ev.now _
  | succ d ih =>
    intro i hi
    have hlt : i < x.length := by omega
    refine Ev.step (fun k => by rw [euclid_samples.l0]) (Ev.pos (by omega) (Ev.pos (by omega) (Ev.pos (by omega) ?_)))
    have e : wrap64 ((i : Int) + 1) = ((i + 1 : Nat) : Int) := by rw [w64 (by omega) (by omega)]; omega
    rw [rd_nat x i hlt, List.drop_eq_getElem_cons hlt, e]
    have hc : smpb (x[i] :: x.drop (i + 1)) = (decide (-1000 ≤ x[i] ∧ x[i] ≤ 1000) && smpb (x.drop (i + 1))) := by unfold smpb; rw [List.all_cons]
    rw [hc]
    by_cases h1 : x[i] < -1000
    · rw [decide_eq_false (by omega)]
      exact Ev.pos h1 (Ev.now _)
    · refine Ev.neg h1 ?_
      by_cases h2 : x[i] > 1000
      · rw [decide_eq_false (by omega)]
        exact Ev.pos h2 (Ev.now _)
      · refine Ev.neg h2 ?_
        rw [decide_eq_true (by omega), Bool.true_and]
        exact ih (i + 1) (by omega)
theorem euclid_samples_is (x : List Int) (hn : x.length ≤ 1000000000) : Ev (fun k => euclid_samples.f k x) (smpb x) := by
  have := euclid_samples_l0 x hn x.length 0 (by omega)
  exact this
/-- The first error of two windows of one length. -/
def chk (x y : List Int) : Int := if lenb x = true ∧ lenb y = true then (if smpb x = true ∧ smpb y = true then (if x.length = y.length then 0 else 8) else 12) else 8
theorem euclid_check_is (x y : List Int) (hx : x.length ≤ 1000000000) (hy : y.length ≤ 1000000000) : Ev (fun k => euclid_check.f k x y) (chk x y) := by
  unfold chk
  have j1 : ∀ b : Bool, Ev (fun k => euclid_check.j1 k x y b) (if b = true then 12 else if x.length = y.length then 0 else 8) := by
    intro b
    refine Ev.step (fun k => by rw [euclid_check.j1]) ?_
    cases b with
    | true => exact Ev.pos rfl (Ev.now _)
    | false =>
      refine Ev.neg (by simp) ?_
      by_cases h : x.length = y.length
      · have e : (if false = true then (12 : Int) else if x.length = y.length then 0 else 8) = 0 := by simp [h]
        rw [e]
        exact Ev.pos (by omega) (Ev.now _)
      · have e : (if false = true then (12 : Int) else if x.length = y.length then 0 else 8) = 8 := by simp [h]
        rw [e]
        exact Ev.neg (by omega) (Ev.now _)
  have j0 : ∀ b : Bool, Ev (fun k => euclid_check.j0 k x y b) (if b = true then 8 else if smpb x = true ∧ smpb y = true then (if x.length = y.length then 0 else 8) else 12) := by
    intro b
    refine Ev.step (fun k => by rw [euclid_check.j0]) ?_
    cases b with
    | true => exact Ev.pos rfl (Ev.now _)
    | false =>
      refine Ev.neg (by simp) (Ev.bind (euclid_samples_is x hx) ?_)
      rw [if_neg (by simp)]
      cases hsx : smpb x with
      | true =>
        refine Ev.pos rfl (Ev.bind (euclid_samples_is y hy) ?_)
        have := j1 (!smpb y)
        cases hsy : smpb y <;> simpa [hsy] using this
      | false =>
        refine Ev.neg (by simp) ?_
        simpa using j1 true
  unfold euclid_check.f
  rw [euclid_length_is x, euclid_length_is y]
  refine Ev.bind (Ev.now _) ?_
  cases hlx : lenb x with
  | true =>
    refine Ev.pos rfl (Ev.bind (Ev.now _) ?_)
    have := j0 (!lenb y)
    cases hly : lenb y <;> simpa [hly] using this
  | false =>
    refine Ev.neg (by simp) ?_
    simpa using j0 true
theorem euclid_square_l0 (x y : List Int) (hx : Smp x) (hy : Smp y) (hl : x.length = y.length) (hn : x.length ≤ 100000) (d : Nat) :
    ∀ (i : Nat) (s : Int), i + d = x.length → 0 ≤ s → s ≤ 4000000 * i → Ev (fun k => euclid_square.l0 k y s x (x.length : Int) (i : Int)) (s + sqd (x.drop i) (y.drop i)) := by
  induction d with
  | zero =>
    intro i s hi h0 h1
    refine Ev.step (fun k => by rw [euclid_square.l0]) (Ev.neg (by omega) ?_)
    rw [List.drop_eq_nil_of_le (by omega)]
    simp only [sqd, Int.add_zero]
    exact Ev.now _
  | succ d ih =>
    intro i s hi h0 h1
    have hlt : i < x.length := by omega
    have hlt' : i < y.length := by omega
    have bx := hx x[i] (List.getElem_mem _)
    have by_ := hy y[i] (List.getElem_mem _)
    refine Ev.step (fun k => by rw [euclid_square.l0]) (Ev.pos (by omega) (Ev.pos (by omega) (Ev.pos (by omega) (Ev.pos (by omega) ?_))))
    have e : wrap64 ((i : Int) + 1) = ((i + 1 : Nat) : Int) := by rw [w64 (by omega) (by omega)]; omega
    have b1 := sqnn (x[i] - y[i])
    have b2 := abs_sq (a := x[i] - y[i]) (m := 2000) (by omega) (by omega)
    rw [rd_nat x i hlt, rd_nat y i hlt', List.drop_eq_getElem_cons hlt, List.drop_eq_getElem_cons hlt', e]
    have e1 : wrap64 (x[i] - y[i]) = x[i] - y[i] := w64 (by omega) (by omega)
    rw [e1]
    have e2 : wrap64 ((x[i] - y[i]) * (x[i] - y[i])) = (x[i] - y[i]) * (x[i] - y[i]) := w64 (by omega) (by omega)
    rw [e2]
    have e3 : wrap64 (s + (x[i] - y[i]) * (x[i] - y[i])) = s + (x[i] - y[i]) * (x[i] - y[i]) := w64 (by omega) (by omega)
    rw [e3]
    simp only [sqd]
    rw [← Int.add_assoc]
    exact ih (i + 1) _ (by omega) (by omega) (by omega)
theorem euclid_square_is (x y : List Int) (hx : Smp x) (hy : Smp y) (hl : x.length = y.length) (hn : x.length ≤ 100000) : Ev (fun k => euclid_square.f k x y) (sqd x y) := by
  have := euclid_square_l0 x y hx hy hl hn x.length 0 0 (by omega) (by omega) (by omega)
  simp only [List.drop_zero, Int.zero_add] at this
  exact this
theorem chk_ok {x y : List Int} (hx : Smp x) (hy : Smp y) (h2 : 2 ≤ x.length) (h32 : x.length ≤ 32) (hl : x.length = y.length) : chk x y = 0 := by
  unfold chk lenb
  rw [if_pos ⟨decide_eq_true ⟨h2, h32⟩, decide_eq_true (by omega)⟩, if_pos ⟨(smpb_iff x).2 hx, (smpb_iff y).2 hy⟩, if_pos hl]
theorem chk_zero {x y : List Int} (h : chk x y = 0) : Smp x ∧ Smp y ∧ 2 ≤ x.length ∧ x.length ≤ 32 ∧ x.length = y.length := by
  unfold chk at h
  split at h
  · rename_i h1
    split at h
    · rename_i h2
      split at h
      · rename_i h3
        have := of_decide_eq_true h1.1
        exact ⟨(smpb_iff x).1 h2.1, (smpb_iff y).1 h2.2, this.1, this.2, h3⟩
      · omega
    · omega
  · omega
theorem euclid_Distance_is (x y : List Int) (hx : x.length ≤ 1000000000) (hy : y.length ≤ 1000000000) : Ev (fun k => euclid_Distance.f k x y) (if chk x y = 0 then (sqd x y, 0) else (0, chk x y)) := by
  unfold euclid_Distance.f
  refine Ev.bind (euclid_check_is x y hx hy) ?_
  by_cases h : chk x y = 0
  · rw [if_pos h]
    obtain ⟨h1, h2, h3, h4, h5⟩ := chk_zero h
    exact Ev.pos h (Ev.bind (euclid_square_is x y h1 h2 h5 (by omega)) (Ev.now _))
  · rw [if_neg h]
    exact Ev.neg h (Ev.now _)
theorem euclid_Distance_ok {x y : List Int} (hx : Smp x) (hy : Smp y) (h2 : 2 ≤ x.length) (h32 : x.length ≤ 32) (hl : x.length = y.length) : Ev (fun k => euclid_Distance.f k x y) (sqd x y, 0) := by
  have := euclid_Distance_is x y (by omega) (by omega)
  rwa [if_pos (chk_ok hx hy h2 h32 hl)] at this
theorem sqd_big {x y : List Int} (hx : Smp x) (hy : Smp y) (h32 : x.length ≤ 32) : sqd x y ≤ 128000000 := by
  have := sqd_le 1000 x y hx hy
  omega
/-! ### products, variances, gaps -/
theorem normal_product_l0 (x y : List Int) (hx : Smp x) (hy : Smp y) (hl : x.length = y.length) (hn : x.length ≤ 32) (d : Nat) :
    ∀ (i : Nat) (p s t : Int), i + d = x.length → -1000000 * i ≤ p → p ≤ 1000000 * i → -1000 * i ≤ s → s ≤ 1000 * i → -1000 * i ≤ t → t ≤ 1000 * i →
      Ev (fun k => normal_product.l0 k x y p s t x (x.length : Int) (i : Int)) ((x.length : Int) * (p + dot (x.drop i) (y.drop i)) - (s + sm (x.drop i)) * (t + sm (y.drop i))) := by
  induction d with
  | zero =>
    intro i p s t hi p0 p1 s0 s1 t0 t1
    refine Ev.step (fun k => by rw [normal_product.l0]) (Ev.neg (by omega) ?_)
    rw [List.drop_eq_nil_of_le (by omega), List.drop_eq_nil_of_le (by omega)]
    simp only [dot, sm, Int.add_zero]
    have b1 := mul_abs (u := (x.length : Int)) (v := p) (A := 32) (B := 32000000) (by omega) (by omega) (by omega) (by omega) (by omega) (by omega)
    have b2 := mul_abs (u := s) (v := t) (A := 32000) (B := 32000) (by omega) (by omega) (by omega) (by omega) (by omega) (by omega)
    rw [w64 (n := (x.length : Int) * p) (by omega) (by omega), w64 (n := s * t) (by omega) (by omega), w64 (n := (x.length : Int) * p - s * t) (by omega) (by omega)]
    exact Ev.now _
  | succ d ih =>
    intro i p s t hi p0 p1 s0 s1 t0 t1
    have hlt : i < x.length := by omega
    have hlt' : i < y.length := by omega
    have bx := hx x[i] (List.getElem_mem _)
    have by_ := hy y[i] (List.getElem_mem _)
    refine Ev.step (fun k => by rw [normal_product.l0]) (Ev.pos (by omega) (Ev.pos (by omega) (Ev.pos (by omega) (Ev.pos (by omega) ?_))))
    have hi1 : i + 1 + d = x.length := by omega
    have hc : ((i + 1 : Nat) : Int) = (i : Int) + 1 := by omega
    have hi32 : i ≤ 32 := by omega
    rw [w_succ (by omega), rd_nat x i hlt, rd_nat y i hlt', List.drop_eq_getElem_cons hlt, List.drop_eq_getElem_cons hlt']
    simp only [dot, sm]
    generalize x[i] = u at *
    generalize y[i] = v at *
    have b1 := mul_abs (u := u) (v := v) (A := 1000) (B := 1000) (by omega) (by omega) (by omega) (by omega) (by omega) (by omega)
    have := ih (i + 1) (p + u * v) (s + u) (t + v) hi1 (by rw [hc]; omega) (by rw [hc]; omega) (by rw [hc]; omega) (by rw [hc]; omega) (by rw [hc]; omega) (by rw [hc]; omega)
    rw [w64 (n := u * v) (by omega) (by omega), w64 (n := p + u * v) (by omega) (by omega), w64 (n := s + u) (by omega) (by omega), w64 (n := t + v) (by omega) (by omega)]
    rw [Int.add_assoc, Int.add_assoc, Int.add_assoc] at this
    exact this
theorem normal_product_is {x y : List Int} (hx : Smp x) (hy : Smp y) (hl : x.length = y.length) (hn : x.length ≤ 32) : Ev (fun k => normal_product.f k x y) (cov x y) := by
  have := normal_product_l0 x y hx hy hl hn x.length 0 0 0 0 (by omega) (by omega) (by omega) (by omega) (by omega) (by omega) (by omega)
  simp only [List.drop_zero, Int.zero_add] at this
  exact this
theorem normal_Product_ok {x y : List Int} (hx : Smp x) (hy : Smp y) (h2 : 2 ≤ x.length) (h32 : x.length ≤ 32) (hl : x.length = y.length) : Ev (fun k => normal_Product.f k x y) (cov x y, 0) := by
  unfold normal_Product.f
  exact Ev.bind (euclid_Distance_ok hx hy h2 h32 hl) (Ev.pos rfl (Ev.bind (normal_product_is hx hy hl h32) (Ev.now _)))
theorem normal_Centred_l0 (x : List Int) (hx : Smp x) (hn : x.length ≤ 32) (d : Nat) :
    ∀ (i : Nat) (s : Int), i + d = x.length → -1000 * i ≤ s → s ≤ 1000 * i →
      Ev (fun k => normal_Centred.l0 k x s x (x.length : Int) (i : Int)) (cen x.length (s + sm (x.drop i)) x, 0) := by
  induction d with
  | zero =>
    intro i s hi s0 s1
    refine Ev.step (fun k => by rw [normal_Centred.l0]) (Ev.neg (by omega) (Ev.pos (by omega) (Ev.pos (by omega) ?_)))
    rw [List.drop_eq_nil_of_le (by omega)]
    simp only [sm, Int.add_zero, Int.toNat_natCast]
    have key : ∀ (d i : Nat) (o : List Int), i + d = x.length → o = (cen x.length s x).take i ++ List.replicate d 0 → Ev (fun k => normal_Centred.l1 k x s o x (x.length : Int) (i : Int)) (cen x.length s x, 0) := by
      intro d
      induction d with
      | zero =>
        intro i o hi ho
        refine Ev.step (fun k => by rw [normal_Centred.l1]) (Ev.neg (by omega) ?_)
        have : o = cen x.length s x := by rw [ho, List.take_of_length_le (by unfold cen; rw [List.length_map]; omega)]; simp
        rw [this]
        exact Ev.now _
      | succ d ih =>
        intro i o hi ho
        have hlt : i < x.length := by omega
        have bx := hx x[i] (List.getElem_mem _)
        have lc : (cen x.length s x).length = x.length := by unfold cen; rw [List.length_map]
        have lt : ((cen x.length s x).take i).length = i := by rw [List.length_take]; omega
        have lo : o.length = x.length := by rw [ho, List.length_append, lt, List.length_replicate]; omega
        have hi1 : i + 1 + d = x.length := by omega
        have hc : (cen x.length s x)[i]'(by omega) = (x.length : Int) * x[i] - s := by unfold cen; rw [List.getElem_map]
        have b1 := mul_abs (u := (x.length : Int)) (v := x[i]) (A := 32) (B := 1000) (by omega) (by omega) (by omega) (by omega) (by omega) (by omega)
        refine Ev.step (fun k => by rw [normal_Centred.l1]) (Ev.pos (by omega) (Ev.pos (by omega) (Ev.pos (by omega) (Ev.pos (by omega) ?_))))
        rw [w_succ (by omega), rd_nat x i hlt, w64 (n := (x.length : Int) * x[i]) (by omega) (by omega), w64 (n := (x.length : Int) * x[i] - s) (by omega) (by omega), Int.toNat_natCast]
        refine ih (i + 1) _ hi1 ?_
        rw [List.take_succ_eq_append_getElem (by omega), hc, ho, List.set_append_right _ _ (by omega), lt, Nat.sub_self, List.replicate_succ, List.set_cons_zero, List.append_assoc]
        rfl
    exact key x.length 0 _ (by omega) (by simp)
  | succ d ih =>
    intro i s hi s0 s1
    have hlt : i < x.length := by omega
    have bx := hx x[i] (List.getElem_mem _)
    have hi1 : i + 1 + d = x.length := by omega
    have hc : ((i + 1 : Nat) : Int) = (i : Int) + 1 := by omega
    refine Ev.step (fun k => by rw [normal_Centred.l0]) (Ev.pos (by omega) (Ev.pos (by omega) (Ev.pos (by omega) ?_)))
    rw [w_succ (by omega), rd_nat x i hlt, List.drop_eq_getElem_cons hlt, w64 (n := s + x[i]) (by omega) (by omega)]
    simp only [sm]
    rw [← Int.add_assoc]
    exact ih (i + 1) _ hi1 (by rw [hc]; omega) (by rw [hc]; omega)
theorem normal_Centred_ok {x : List Int} (hx : Smp x) (h2 : 2 ≤ x.length) (h32 : x.length ≤ 32) : Ev (fun k => normal_Centred.f k x) (cen x.length (sm x) x, 0) := by
  unfold normal_Centred.f
  have := normal_Centred_l0 x hx h32 x.length 0 0 (by omega) (by omega) (by omega)
  simp only [List.drop_zero, Int.zero_add] at this
  exact Ev.bind (euclid_Distance_ok hx hx h2 h32 rfl) (Ev.pos rfl this)
/-! ### ratios -/
theorem ratio_divisor_l0 (b : Nat) : ∀ a : Nat, Ev (fun k => ratio_divisor.l0 k (a : Int) (b : Int)) (Nat.gcd a b : Int) := by
  induction b using Nat.strongRecOn with
  | _ b ih =>
    intro a
    refine Ev.step (fun k => by rw [ratio_divisor.l0]) ?_
    by_cases h : b = 0
    · subst h
      rw [Nat.gcd_zero_right]
      exact Ev.pos rfl (Ev.now _)
    · refine Ev.neg (by omega) ?_
      have e1 : Int.tmod (a : Int) (b : Int) = ((a % b : Nat) : Int) := by rw [Int.tmod_eq_emod_of_nonneg (by omega)]; rfl
      have e2 : Nat.gcd a b = Nat.gcd b (a % b) := by rw [Nat.gcd_comm a b, Nat.gcd_rec b a, Nat.gcd_comm]
      rw [e1, e2]
      exact ih (a % b) (Nat.mod_lt _ (by omega)) b
theorem ratio_divisor_is (a b : Int) (ha : 0 ≤ a) (hb : 0 ≤ b) : Ev (fun k => ratio_divisor.f k a b) (gcdz a b) := by
  obtain ⟨m, rfl⟩ := Int.eq_ofNat_of_zero_le ha
  obtain ⟨n, rfl⟩ := Int.eq_ofNat_of_zero_le hb
  have := ratio_divisor_l0 n m
  unfold gcdz
  rw [Int.toNat_natCast, Int.toNat_natCast]
  exact this
theorem ratio_within_is (p q : Int) : ratio_within.f p q = some (decide (0 ≤ p ∧ p ≤ 2305843009213693952 ∧ 1 ≤ q ∧ q ≤ 1152921504606846976)) := by
  unfold ratio_within.f
  by_cases h1 : p ≥ 0
  · rw [if_pos h1]
    by_cases h2 : p ≤ 2305843009213693952
    · rw [if_pos h2]
      by_cases h3 : q ≥ 1
      · rw [if_pos h3]
        congr 1
        rw [decide_eq_decide]
        omega
      · rw [if_neg h3, decide_eq_false (by omega)]
    · rw [if_neg h2, decide_eq_false (by omega)]
  · rw [if_neg h1, decide_eq_false (by omega)]
theorem ratio_Make_is (n d : Int) (hn : -9223372036854775808 ≤ n) (hn' : n ≤ 9223372036854775807) (hd : -9223372036854775808 ≤ d) (hd' : d ≤ 9223372036854775807) : Ev (fun k => ratio_Make.f k n d) (mkr n d) := by
  have j0 : ∀ b : Bool, (b = true ↔ n < 0 ∨ d < 1) → Ev (fun k => ratio_Make.j0 k n d b) (mkr n d) := by
    intro b hb
    refine Ev.step (fun k => by rw [ratio_Make.j0]) ?_
    unfold mkr
    cases b with
    | true =>
      rw [if_pos (hb.1 rfl)]
      exact Ev.pos rfl (Ev.now _)
    | false =>
      have hc : ¬ (n < 0 ∨ d < 1) := fun h => by have := hb.2 h; cases this
      rw [if_neg hc]
      have hg := gcdz_pos (n := n) (d := d) (by omega)
      refine Ev.neg (by simp) (Ev.bind (ratio_divisor_is n d (by omega) (by omega)) (Ev.neg (by omega) ?_))
      have b1 := Int.ediv_le_self (gcdz n d) (show 0 ≤ n by omega)
      have b2 := Int.ediv_le_self (gcdz n d) (show 0 ≤ d by omega)
      have b3 := Int.ediv_nonneg (show 0 ≤ n by omega) (show 0 ≤ gcdz n d by omega)
      have b4 := Int.ediv_nonneg (show 0 ≤ d by omega) (show 0 ≤ gcdz n d by omega)
      have e1 : wrap64 (Int.tdiv n (gcdz n d)) = n / gcdz n d := by rw [Int.tdiv_eq_ediv_of_nonneg (by omega), w64 (by omega) (by omega)]
      have e2 : wrap64 (Int.tdiv d (gcdz n d)) = d / gcdz n d := by rw [Int.tdiv_eq_ediv_of_nonneg (by omega), w64 (by omega) (by omega)]
      have b5 : 1 ≤ d / gcdz n d := by
        have hdv : gcdz n d ∣ d := by
          unfold gcdz
          have := Int.natCast_dvd_natCast.2 (Nat.gcd_dvd_right n.toNat d.toNat)
          rwa [Int.toNat_of_nonneg (show 0 ≤ d by omega)] at this
        have := Int.ediv_mul_cancel hdv
        by_cases h0 : d / gcdz n d = 0
        · rw [h0] at this
          omega
        · omega
      rw [e1, e2, ratio_within_is]
      refine Ev.bind (Ev.now _) ?_
      by_cases hw : n / gcdz n d ≤ 2305843009213693952 ∧ d / gcdz n d ≤ 1152921504606846976
      · rw [if_pos hw]
        exact Ev.pos (decide_eq_true ⟨b3, hw.1, b5, hw.2⟩) (Ev.now _)
      · rw [if_neg hw]
        exact Ev.neg (fun h => hw ⟨(of_decide_eq_true h).2.1, (of_decide_eq_true h).2.2.2⟩) (Ev.now _)
  unfold ratio_Make.f
  by_cases h : n < 0
  · exact Ev.pos h (j0 true ⟨fun _ => .inl h, fun _ => rfl⟩)
  · refine Ev.neg h (j0 _ ⟨fun hc => .inr (of_decide_eq_true hc), fun hc => decide_eq_true (by omega)⟩)
/-! ### variances and gaps -/
theorem window_Variance_is {m s q : Int} (h1 : 1 ≤ m) (h2 : m ≤ 32) (s0 : -1000 * m ≤ s) (s1 : s ≤ 1000 * m) (q0 : 0 ≤ q) (q1 : q ≤ 1000000 * m) (hd : 0 ≤ m * q - s * s) : window_Variance.f m s q = some (m * q - s * s) := by
  have e1 : wrap64 ((-1000) * m) = -1000 * m := w64 (by omega) (by omega)
  have e2 : wrap64 (1000 * m) = 1000 * m := w64 (by omega) (by omega)
  have e3 : wrap64 (1000000 * m) = 1000000 * m := w64 (by omega) (by omega)
  have b1 := mul_abs (u := m) (v := q) (A := 32) (B := 32000000) (by omega) (by omega) (by omega) (by omega) (by omega) (by omega)
  have b2 := mul_abs (u := s) (v := s) (A := 32000) (B := 32000) (by omega) (by omega) (by omega) (by omega) (by omega) (by omega)
  have e4 : wrap64 (m * q) = m * q := w64 (by omega) (by omega)
  have e5 : wrap64 (s * s) = s * s := w64 (by omega) (by omega)
  have e6 : wrap64 (m * q - s * s) = m * q - s * s := w64 (by omega) (by omega)
  unfold window_Variance.f
  rw [e1, e2, e3, e4, e5, e6, if_neg (by omega), if_neg (by omega), if_neg (by omega), if_neg (by omega), if_neg (by omega), if_neg (by omega)]
  unfold mx
  split
  · congr 1 <;> omega
  · congr 1 <;> omega
theorem normal_variance_l0 (x : List Int) (hx : Smp x) (h1 : 1 ≤ x.length) (hn : x.length ≤ 32) (d : Nat) :
    ∀ (i : Nat) (s q : Int), i + d = x.length → -1000 * i ≤ s → s ≤ 1000 * i → 0 ≤ q → q ≤ 1000000 * i → 0 ≤ (x.length : Int) * (q + dot (x.drop i) (x.drop i)) - (s + sm (x.drop i)) * (s + sm (x.drop i)) →
      Ev (fun k => normal_variance.l0 k x (x.length : Int) (i : Int) (x.length : Int) s q) ((x.length : Int) * (q + dot (x.drop i) (x.drop i)) - (s + sm (x.drop i)) * (s + sm (x.drop i))) := by
  induction d with
  | zero =>
    intro i s q hi s0 s1 q0 q1 hd
    refine Ev.step (fun k => by rw [normal_variance.l0]) (Ev.neg (by omega) ?_)
    rw [show x.drop i = [] from List.drop_eq_nil_of_le (by omega)] at hd ⊢
    simp only [dot, sm, Int.add_zero] at hd ⊢
    rw [window_Variance_is (by omega) (by omega) (by omega) (by omega) q0 (by omega) hd]
    exact Ev.bind (Ev.now _) (Ev.now _)
  | succ d ih =>
    intro i s q hi s0 s1 q0 q1 hd
    have hlt : i < x.length := by omega
    have bx := hx x[i] (List.getElem_mem _)
    have hi1 : i + 1 + d = x.length := by omega
    have hc : ((i + 1 : Nat) : Int) = (i : Int) + 1 := by omega
    refine Ev.step (fun k => by rw [normal_variance.l0]) (Ev.pos (by omega) (Ev.pos (by omega) (Ev.pos (by omega) ?_)))
    have hi32 : i ≤ 32 := by omega
    rw [w_succ (by omega), rd_nat x i hlt]
    rw [List.drop_eq_getElem_cons hlt] at hd ⊢
    simp only [dot, sm] at hd ⊢
    generalize x[i] = u at *
    have b1 := mul_abs (u := u) (v := u) (A := 1000) (B := 1000) (by omega) (by omega) (by omega) (by omega) (by omega) (by omega)
    have b0 := sqnn u
    have := ih (i + 1) (s + u) (q + u * u) hi1 (by rw [hc]; omega) (by rw [hc]; omega) (by omega) (by rw [hc]; omega) (by rw [Int.add_assoc, Int.add_assoc]; exact hd)
    rw [w64 (n := u * u) (by omega) (by omega), w64 (n := q + u * u) (by omega) (by omega), w64 (n := s + u) (by omega) (by omega)]
    rw [Int.add_assoc, Int.add_assoc] at this
    exact this
theorem normal_variance_is {x : List Int} (hx : Smp x) (h1 : 1 ≤ x.length) (hn : x.length ≤ 32) : Ev (fun k => normal_variance.f k x) (cov x x) := by
  have nn := cov_self_nonneg x
  unfold cov at nn
  have := normal_variance_l0 x hx h1 hn x.length 0 0 0 (by omega) (by omega) (by omega) (by omega) (by omega) (by simpa using nn)
  simp only [List.drop_zero, Int.zero_add] at this
  exact this
theorem eta3 (r : Int × Int × Int) : (r.1, r.2.1, r.2.2) = r := rfl
theorem normal_gap_is {x y : List Int} (hx : Smp x) (hy : Smp y) (h1 : 1 ≤ x.length) (hn : x.length ≤ 32) (hl : x.length = y.length) : Ev (fun k => normal_gap.f k x y) (gapv x y) := by
  have bx := cov_bound hx hn
  have by_ := cov_bound hy (by omega)
  have nx := cov_self_nonneg x
  have ny := cov_self_nonneg y
  have cc := cov_cs hl
  have b1 := mul_le4 nx bx ny by_
  have b2 := Int.mul_nonneg nx ny
  have b3 := sqnn (cov x y)
  have j0 : ∀ b : Bool, (b = true ↔ cov x x = 0 ∧ cov y y = 0) → Ev (fun k => normal_gap.j0 k x y (cov x x) (cov y y) b) (gapv x y) := by
    intro b hb
    refine Ev.step (fun k => by rw [normal_gap.j0]) ?_
    unfold gapv gapn
    cases b with
    | true =>
      rw [if_pos (hb.1 rfl)]
      exact Ev.pos rfl (Ev.bind (ratio_Make_is 0 1 (by omega) (by omega) (by omega) (by omega)) (Ev.now _))
    | false =>
      have hc : ¬ (cov x x = 0 ∧ cov y y = 0) := fun h => by have := hb.2 h; cases this
      rw [if_neg hc]
      refine Ev.neg (by simp) ?_
      by_cases h0 : cov x x = 0
      · rw [if_pos (.inl h0)]
        exact Ev.pos h0 (Ev.bind (ratio_Make_is 1 1 (by omega) (by omega) (by omega) (by omega)) (Ev.now _))
      refine Ev.neg h0 ?_
      by_cases h2 : cov y y = 0
      · rw [if_pos (.inr h2)]
        exact Ev.pos h2 (Ev.bind (ratio_Make_is 1 1 (by omega) (by omega) (by omega) (by omega)) (Ev.now _))
      refine Ev.neg h2 (Ev.bind (normal_product_is hx hy hl hn) ?_)
      rw [if_neg (by omega), w64 (n := cov x x * cov y y) (by omega) (by omega), w64 (n := cov x y * cov x y) (by omega) (by omega), w64 (n := cov x x * cov y y + cov x y * cov x y) (by omega) (by omega), w64 (n := cov x x * cov y y - cov x y * cov x y) (by omega) (by omega)]
      by_cases h3 : cov x y < 0
      · rw [if_pos h3]
        exact Ev.pos h3 (Ev.bind (ratio_Make_is _ _ (by omega) (by omega) (by omega) (by omega)) (Ev.now _))
      · rw [if_neg h3]
        exact Ev.neg h3 (Ev.bind (ratio_Make_is _ _ (by omega) (by omega) (by omega) (by omega)) (Ev.now _))
  unfold normal_gap.f
  refine Ev.bind (normal_variance_is hx h1 hn) (Ev.bind (normal_variance_is hy (by omega) (by omega)) ?_)
  by_cases h : cov x x = 0
  · refine Ev.pos h (j0 _ ?_)
    simp [h]
  · refine Ev.neg h (j0 _ ?_)
    simp [h]
theorem normal_Gap_ok {x y : List Int} (hx : Smp x) (hy : Smp y) (h2 : 2 ≤ x.length) (h32 : x.length ≤ 32) (hl : x.length = y.length) : Ev (fun k => normal_Gap.f k x y) (gapv x y) := by
  unfold normal_Gap.f
  exact Ev.bind (euclid_Distance_ok hx hy h2 h32 hl) (Ev.pos rfl (Ev.bind (normal_gap_is hx hy (by omega) h32 hl) (Ev.now _)))
theorem spread_l0 (x : List Int) (h0 : 0 < x.length) (hn : x.length ≤ 32) (d : Nat) : ∀ i : Nat, i + d = x.length → Ev (fun k => shapesearchlaw13_spread.l0 k x (x.length : Int) (i : Int)) ((x.drop i).any fun a => a != x[0]) := by
  induction d with
  | zero =>
    intro i hi
    refine Ev.step (fun k => by rw [shapesearchlaw13_spread.l0]) (Ev.neg (by omega) ?_)
    rw [show x.drop i = [] from List.drop_eq_nil_of_le (by omega)]
    exact Ev.now false
  | succ d ih =>
    intro i hi
    have hlt : i < x.length := by omega
    refine Ev.step (fun k => by rw [shapesearchlaw13_spread.l0]) (Ev.pos (by omega) (Ev.pos (by omega) (Ev.pos (by omega) (Ev.pos (by omega) ?_))))
    have e0 : rd x 0 = x[0] := rd_nat x 0 h0
    rw [rd_nat x i hlt, e0, w_succ (by omega), List.drop_eq_getElem_cons hlt, List.any_cons]
    by_cases h : x[i] = x[0]
    · refine Ev.pos h ?_
      have e : (x[i] != x[0]) = false := by simp [h]
      rw [e, Bool.false_or]
      exact ih (i + 1) (by omega)
    · refine Ev.neg h ?_
      have e : (x[i] != x[0]) = true := by simp [h]
      rw [e, Bool.true_or]
      exact Ev.now _
theorem spread_is {x : List Int} (h0 : 0 < x.length) (hn : x.length ≤ 32) : Ev (fun k => shapesearchlaw13_spread.f k x) (decide (cov x x ≠ 0)) := by
  have h := spread_l0 x h0 hn x.length 0 (by omega)
  rw [List.drop_zero] at h
  have e : (x.any fun a => a != x[0]) = decide (cov x x ≠ 0) := by
    rw [Bool.eq_iff_iff, List.any_eq_true, decide_eq_true_iff]
    constructor
    · rintro ⟨a, ha, hne⟩ hc
      rw [same_of_cov h0 hc a ha _ (List.getElem_mem h0)] at hne
      simp at hne
    · intro hc
      by_cases hs : ∃ a ∈ x, (a != x[0]) = true
      · exact hs
      · refine absurd (cov_same (x := x) (c := x[0]) (fun a ha => ?_)) hc
        by_cases he : a = x[0]
        · exact he
        · exact absurd ⟨a, ha, by simp [he]⟩ hs
  rw [e] at h
  exact h
/-- The gap of two windows, as a ratio: none, one, or from the square of their product. -/
theorem gapv_ok {x y : List Int} (hx : Smp x) (hy : Smp y) (h32 : x.length ≤ 32) (hl : x.length = y.length) : (gapv x y).2.2 = 0 := by
  have bx := cov_bound hx h32
  have by_ := cov_bound hy (by omega)
  have nx := cov_self_nonneg x
  have ny := cov_self_nonneg y
  have b1 := mul_le4 nx bx ny by_
  have cc := cov_cs hl
  have b3 := sqnn (cov x y)
  have one : ∀ n d : Int, 0 ≤ n → n ≤ 2305843009213693952 → 1 ≤ d → d ≤ 1152921504606846976 → (mkr n d).2.2 = 0 := by
    intro n d a1 a2 a3 a4
    obtain ⟨p, q, g, e, _⟩ := mkr_ok a1 a2 a3 a4
    rw [e]
  unfold gapv gapn
  split
  · exact one 0 1 (by omega) (by omega) (by omega) (by omega)
  · split
    · exact one 1 1 (by omega) (by omega) (by omega) (by omega)
    · have hvw := Int.mul_pos (show 0 < cov x x by omega) (show 0 < cov y y by omega)
      split
      · exact one _ _ (by omega) (by omega) (by omega) (by omega)
      · exact one _ _ (by omega) (by omega) (by omega) (by omega)
theorem ref01_common_l0 (b : Nat) : ∀ a : Nat, Ev (fun k => shapesearchref01_common.l0 k (a : Int) (b : Int)) (Nat.gcd a b : Int) := by
  induction b using Nat.strongRecOn with
  | _ b ih =>
    intro a
    refine Ev.step (fun k => by rw [shapesearchref01_common.l0]) ?_
    by_cases h : b = 0
    · subst h
      rw [Nat.gcd_zero_right]
      exact Ev.neg (by omega) (Ev.now _)
    · refine Ev.pos (by omega) (Ev.neg (by omega) ?_)
      have e1 : Int.tmod (a : Int) (b : Int) = ((a % b : Nat) : Int) := by rw [Int.tmod_eq_emod_of_nonneg (by omega)]; rfl
      have e2 : Nat.gcd a b = Nat.gcd b (a % b) := by rw [Nat.gcd_comm a b, Nat.gcd_rec b a, Nat.gcd_comm]
      rw [e1, e2]
      exact ih (a % b) (Nat.mod_lt _ (by omega)) b
theorem ref01_common_is (a b : Int) (ha : 0 ≤ a) (hb : 0 ≤ b) : Ev (fun k => shapesearchref01_common.f k a b) (gcdz a b) := by
  obtain ⟨m, rfl⟩ := Int.eq_ofNat_of_zero_le ha
  obtain ⟨n, rfl⟩ := Int.eq_ofNat_of_zero_le hb
  have := ref01_common_l0 n m
  unfold gcdz
  rw [Int.toNat_natCast, Int.toNat_natCast]
  exact this
theorem ref01_Valid_ok {p q : Int} (h : RatV p q) : Ev (fun k => shapesearchref01_Valid.f k p q) true := by
  obtain ⟨h1, h2, h3, h4, h5⟩ := h
  unfold shapesearchref01_Valid.f
  refine Ev.pos h1 (Ev.pos h2 (Ev.pos h3 (Ev.pos h4 (Ev.bind (ref01_common_is p q h1 (by omega)) ?_))))
  rw [h5]
  exact Ev.now _
theorem ref01_order_is (n : Nat) : ∀ a b c d : Int, (b + d).toNat ≤ n → 0 ≤ a → a ≤ 9223372036854775807 → 1 ≤ b → b ≤ 9223372036854775807 → 0 ≤ c → c ≤ 9223372036854775807 → 1 ≤ d → d ≤ 9223372036854775807 → Ev (fun k => shapesearchref01_order.f k a b c d) (cmpr a b c d) := by
  induction n with
  | zero => intro a b c d h; omega
  | succ n ih =>
    intro a b c d hn ha ha' hb hb' hc hc' hd hd'
    have q1 := Int.ediv_le_self b ha
    have q2 := Int.ediv_le_self d hc
    have q3 := Int.ediv_nonneg ha (show 0 ≤ b by omega)
    have q4 := Int.ediv_nonneg hc (show 0 ≤ d by omega)
    have e1 : wrap64 (Int.tdiv a b) = a / b := by rw [Int.tdiv_eq_ediv_of_nonneg ha, w64 (by omega) (by omega)]
    have e2 : wrap64 (Int.tdiv c d) = c / d := by rw [Int.tdiv_eq_ediv_of_nonneg hc, w64 (by omega) (by omega)]
    have e3 : Int.tmod a b = a % b := Int.tmod_eq_emod_of_nonneg ha
    have e4 : Int.tmod c d = c % d := Int.tmod_eq_emod_of_nonneg hc
    have m1 := Int.emod_nonneg a (show b ≠ 0 by omega)
    have m2 := Int.emod_lt_of_pos a (show 0 < b by omega)
    have m3 := Int.emod_nonneg c (show d ≠ 0 by omega)
    have m4 := Int.emod_lt_of_pos c (show 0 < d by omega)
    have d1 := Int.mul_ediv_add_emod a b
    have d2 := Int.mul_ediv_add_emod c d
    refine Ev.step (fun k => by rw [shapesearchref01_order.f]) (Ev.neg (by omega) (Ev.neg (by omega) ?_))
    rw [e1, e2, e3, e4]
    by_cases hq : a / b = c / d
    · refine Ev.pos hq ?_
      have key : cmpr a b c d = cmpr d (c % d) b (a % b) := cmpr_eq (q := a / b) (by omega) (by rw [hq]; omega)
      have j0 : ∀ z : Bool, (z = true ↔ a % b = 0 ∧ c % d = 0) → Ev (fun k => shapesearchref01_order.j0 k (a % b) b (c % d) d z) (cmpr a b c d) := by
        intro z hz
        refine Ev.step (fun k => by rw [shapesearchref01_order.j0]) ?_
        rw [key]
        cases z with
        | true =>
          obtain ⟨z1, z2⟩ := hz.1 rfl
          rw [z1, z2]
          have e : cmpr d 0 b 0 = 0 := by simp [cmpr]
          rw [e]
          exact Ev.pos rfl (Ev.now _)
        | false =>
          refine Ev.neg (by simp) ?_
          by_cases z1 : a % b = 0
          · have z2 : ¬ c % d = 0 := fun h => by have := hz.2 ⟨z1, h⟩; cases this
            have : 0 < b * (c % d) := Int.mul_pos (by omega) (by omega)
            have e : cmpr d (c % d) b (a % b) = -1 := by unfold cmpr; rw [z1, Int.mul_zero, if_pos this]
            rw [e]
            exact Ev.pos z1 (Ev.now _)
          · refine Ev.neg z1 ?_
            by_cases z2 : c % d = 0
            · have : 0 < d * (a % b) := Int.mul_pos (by omega) (by omega)
              have e : cmpr d (c % d) b (a % b) = 1 := by unfold cmpr; rw [z2, Int.mul_zero, if_neg (by omega), if_neg (by omega)]
              rw [e]
              exact Ev.pos z2 (Ev.now _)
            · exact Ev.neg z2 (Ev.bind (ih d (c % d) b (a % b) (by omega) (by omega) (by omega) (by omega) (by omega) (by omega) (by omega) (by omega) (by omega)) (Ev.now _))
      by_cases z1 : a % b = 0
      · refine Ev.pos z1 (j0 _ ⟨fun h => ⟨z1, eq_of_beq h⟩, fun h => by rw [h.2]; rfl⟩)
      · exact Ev.neg z1 (j0 false ⟨fun h => absurd h Bool.false_ne_true, fun h => absurd h.1 z1⟩)
    · refine Ev.neg hq ?_
      by_cases hlt : a / b < c / d
      · rw [cmpr_lt hb hd hlt]
        exact Ev.pos hlt (Ev.now _)
      · rw [cmpr_gt hb hd (by omega)]
        exact Ev.neg hlt (Ev.now _)
theorem ref01_Cmp_is {a b c d : Int} (h : RatV a b) (h' : RatV c d) : Ev (fun k => shapesearchref01_Cmp.f k a b c d) (cmpr a b c d) := by
  unfold shapesearchref01_Cmp.f
  refine Ev.bind (ref01_Valid_ok h) (Ev.pos rfl (Ev.bind (ref01_Valid_ok h') (Ev.pos rfl (Ev.bind (ref01_order_is (b + d).toNat a b c d (Nat.le_refl _) h.1 ?_ h.2.2.1 ?_ h'.1 ?_ h'.2.2.1 ?_) (Ev.now _)))))
  · have := h.2.1; omega
  · have := h.2.2.2.1; omega
  · have := h'.2.1; omega
  · have := h'.2.2.2.1; omega
theorem awake_is : Ev (fun k => shapesearchlaw13_awake.f k) true := Ev.of shapesearchlaw13_awake.mono (k := 40) (by decide +kernel)
/-! ### windows read backwards -/
theorem dot_snoc2 (u v : Int) : ∀ a b : List Int, a.length = b.length → dot (a ++ [u]) (b ++ [v]) = dot a b + u * v
  | [], [], _ => by simp [dot]
  | c :: a, d :: b, h => by
    have ih := dot_snoc2 u v a b (by simpa using h)
    simp only [List.cons_append, dot, ih]
    omega
  | [], d :: b, h => by simp at h
  | c :: a, [], h => by simp at h
theorem sm_snoc2 (u : Int) : ∀ a : List Int, sm (a ++ [u]) = sm a + u
  | [] => by simp [sm]
  | c :: a => by
    have ih := sm_snoc2 u a
    simp only [List.cons_append, sm, ih]
    omega
theorem sm_rev : ∀ a : List Int, sm a.reverse = sm a
  | [] => rfl
  | c :: a => by
    rw [List.reverse_cons, sm_snoc2, sm_rev a]
    simp only [sm]
    omega
theorem dot_rev : ∀ a b : List Int, a.length = b.length → dot a.reverse b.reverse = dot a b
  | [], [], _ => rfl
  | c :: a, d :: b, h => by
    have hl : a.length = b.length := by simpa using h
    rw [List.reverse_cons, List.reverse_cons, dot_snoc2 c d _ _ (by simpa using hl), dot_rev a b hl]
    simp only [dot]
    omega
  | [], d :: b, h => by simp at h
  | c :: a, [], h => by simp at h
theorem cov_rev {a b : List Int} (h : a.length = b.length) : cov a.reverse b.reverse = cov a b := by
  unfold cov
  rw [List.length_reverse, sm_rev, sm_rev, dot_rev a b h]
theorem gapv_rev {a b : List Int} (h : a.length = b.length) : gapv a.reverse b.reverse = gapv a b := by
  unfold gapv
  rw [cov_rev rfl, cov_rev rfl, cov_rev h]
/-! ### the gap's range -/
theorem gapn_comm (v w c : Int) : gapn v w c = gapn w v c := by
  unfold gapn
  rw [Int.mul_comm v w]
  by_cases hv : v = 0 <;> by_cases hw : w = 0 <;> simp [hv, hw]
theorem gapv_comm {a b : List Int} (h : a.length = b.length) : gapv a b = gapv b a := by
  unfold gapv
  rw [cov_comm h, gapn_comm]
theorem gapn_facts {v w c : Int} (v0 : 0 ≤ v) (v1 : v ≤ 1024000000) (w0 : 0 ≤ w) (w1 : w ≤ 1024000000) (hc : c * c ≤ v * w) :
    ∃ p q : Int, gapn v w c = (p, q, 0) ∧ RatV p q ∧ p ≤ 2 * q ∧ (p = q ↔ (c = 0 ∧ (v ≠ 0 ∨ w ≠ 0))) ∧ (p < q ↔ (0 < c ∨ (v = 0 ∧ w = 0))) := by
  have cc := sqnn c
  have hvw : v * w ≤ 1024000000 * 1024000000 := Int.mul_le_mul v1 w1 w0 (by omega)
  by_cases hv : v = 0
  · have hc0 : c = 0 := by
      rw [hv, Int.zero_mul] at hc
      exact (Int.mul_eq_zero.1 (show c * c = 0 by omega)).elim id id
    by_cases hw : w = 0
    · refine ⟨0, 1, ?_, ⟨by decide, by decide, by decide, by decide, by decide⟩, by decide, ?_, ?_⟩
      · unfold gapn
        rw [if_pos ⟨hv, hw⟩]
        rfl
      · exact ⟨fun h => by omega, fun h => by omega⟩
      · exact ⟨fun _ => .inr ⟨hv, hw⟩, fun _ => by decide⟩
    · refine ⟨1, 1, ?_, ⟨by decide, by decide, by decide, by decide, by decide⟩, by decide, ?_, ?_⟩
      · unfold gapn
        rw [if_neg (fun h => hw h.2), if_pos (.inl hv)]
        rfl
      · exact ⟨fun _ => ⟨hc0, .inr hw⟩, fun _ => rfl⟩
      · exact ⟨fun h => by omega, fun h => by omega⟩
  · by_cases hw : w = 0
    · have hc0 : c = 0 := by
        rw [hw, Int.mul_zero] at hc
        exact (Int.mul_eq_zero.1 (show c * c = 0 by omega)).elim id id
      refine ⟨1, 1, ?_, ⟨by decide, by decide, by decide, by decide, by decide⟩, by decide, ?_, ?_⟩
      · unfold gapn
        rw [if_neg (fun h => hv h.1), if_pos (.inr hw)]
        rfl
      · exact ⟨fun _ => ⟨hc0, .inl hv⟩, fun _ => rfl⟩
      · exact ⟨fun h => by omega, fun h => by omega⟩
    · have hpos : 0 < v * w := Int.mul_pos (by omega) (by omega)
      have e0 : gapn v w c = if c < 0 then mkr (v * w + c * c) (v * w) else mkr (v * w - c * c) (v * w) := by
        unfold gapn
        rw [if_neg (fun h => hv h.1), if_neg (fun h => h.elim hv hw)]
      have cpos : c ≠ 0 → 0 < c * c := fun h => by
        have : c * c ≠ 0 := fun g => h ((Int.mul_eq_zero.1 g).elim id id)
        omega
      rw [e0]
      by_cases hcn : c < 0
      · rw [if_pos hcn]
        obtain ⟨p, q, g, e1, e2, g1, e3, e4⟩ := mkr_ok (n := v * w + c * c) (d := v * w) (by omega) (by omega) (by omega) (by omega)
        have hcp := cpos (by omega)
        have hlt : q < p := Int.lt_of_mul_lt_mul_right (a := g) (by omega) (by omega)
        have hle : p ≤ 2 * q := Int.le_of_mul_le_mul_right (a := g) (by rw [Int.mul_assoc]; omega) (by omega)
        exact ⟨p, q, e1, e2, hle, ⟨fun h => by omega, fun h => by omega⟩, ⟨fun h => by omega, fun h => by omega⟩⟩
      · rw [if_neg hcn]
        obtain ⟨p, q, g, e1, e2, g1, e3, e4⟩ := mkr_ok (n := v * w - c * c) (d := v * w) (by omega) (by omega) (by omega) (by omega)
        by_cases hz : c = 0
        · have hcz : c * c = 0 := by rw [hz]; rfl
          have hpq : p = q := Int.eq_of_mul_eq_mul_right (show g ≠ 0 by omega) (by omega)
          exact ⟨p, q, e1, e2, by have := e2.1; omega, ⟨fun _ => ⟨hz, .inl hv⟩, fun _ => hpq⟩, ⟨fun h => by omega, fun h => by omega⟩⟩
        · have hcp := cpos hz
          have hlt : p < q := Int.lt_of_mul_lt_mul_right (a := g) (by omega) (by omega)
          exact ⟨p, q, e1, e2, by have := e2.1; omega, ⟨fun h => by omega, fun h => by omega⟩, ⟨fun _ => .inl (by omega), fun _ => hlt⟩⟩
theorem ref01_Less_is {p q p' q' : Int} (v1 : RatV p q) (v2 : RatV p' q') : Ev (fun k => shapesearchref01_Less.f k p q p' q') (decide (p * q' < p' * q)) := by
  unfold shapesearchref01_Less.f
  refine Ev.bind (ref01_Cmp_is v1 v2) ?_
  have e : decide (cmpr p q p' q' < 0) = decide (p * q' < p' * q) := by
    rw [decide_eq_decide, cmpr_neg]
  rw [e]
  exact Ev.now _
theorem rat_one {p q : Int} (v : RatV p q) : (p == 1 && (q == 1)) = decide (p = q) := by
  rw [Bool.eq_iff_iff, Bool.and_eq_true, beq_iff_eq, beq_iff_eq, decide_eq_true_iff]
  constructor
  · rintro ⟨rfl, rfl⟩
    rfl
  · rintro rfl
    obtain ⟨h0, h1, h2, h3, h4⟩ := v
    unfold gcdz at h4
    rw [Nat.gcd_self] at h4
    omega
theorem range_end {x y : List Int} (hx : Smp x) (hy : Smp y) (h2 : 2 ≤ x.length) (h32 : x.length ≤ 32) (hl : x.length = y.length) (n m : Int) (hm : ¬ m < n) :
    EvP (fun k => shapesearchlaw13_NormalRange.l0 k x y x.reverse y.reverse n m) (fun r => r = true) := by
  have cc := cov_cs hl
  have bx := cov_bound hx h32
  have by_ := cov_bound hy (by omega)
  have nx := cov_self_nonneg x
  have ny := cov_self_nonneg y
  have hz : cov x x = 0 ∨ cov y y = 0 → cov x y = 0 := fun h => by
    have s := sqnn (cov x y)
    have : cov x x * cov y y = 0 := by rcases h with h | h <;> rw [h] <;> simp
    exact (Int.mul_eq_zero.1 (show cov x y * cov x y = 0 by omega)).elim id id
  have g1 := normal_Gap_ok hx hy h2 h32 hl
  have g2 := normal_Gap_ok hy hx (by omega) (by omega) hl.symm
  have hxr : Smp x.reverse := fun a ha => hx a (List.mem_reverse.1 ha)
  have hyr : Smp y.reverse := fun a ha => hy a (List.mem_reverse.1 ha)
  have g3 := normal_Gap_ok hxr hyr (by rw [List.length_reverse]; exact h2) (by rw [List.length_reverse]; exact h32) (by rw [List.length_reverse, List.length_reverse]; exact hl)
  rw [gapv_comm hl.symm] at g2
  rw [gapv_rev hl] at g3
  obtain ⟨p, q, e, v, h2q, hone, hlt⟩ := gapn_facts nx bx ny by_ cc
  have e' : gapv x y = (p, q, 0) := e
  rw [e'] at g1 g2 g3
  have hw : RatV 2 1 := ⟨by decide, by decide, by decide, by decide, by decide⟩
  have h1 : RatV 1 1 := ⟨by decide, by decide, by decide, by decide, by decide⟩
  refine EvP.step (fun k => by rw [shapesearchlaw13_NormalRange.l0]) (EvP.neg hm ?_)
  refine EvP.bind1 g1 (EvP.bind1 g2 (EvP.bind1 g3 (EvP.bind1 (normal_Product_ok hx hy h2 h32 hl) ?_)))
  refine EvP.pos rfl (EvP.pos rfl (EvP.pos rfl (EvP.pos rfl (EvP.pos (by simp) (EvP.pos (by simp) (EvP.bind1 (ref01_Valid_ok v) (EvP.pos rfl (EvP.bind1 (ref01_Cmp_is v hw) (EvP.pos (cmpr_le.2 (show p * 1 ≤ 2 * q by omega)) ?_)))))))))
  have less : Ev (fun k => shapesearchref01_Less.f k p q 1 1) (decide (p < q)) := by
    have := ref01_Less_is v h1
    rw [Int.mul_one, Int.one_mul] at this
    exact this
  have sx := spread_is (x := x) (by omega) h32
  have sy := spread_is (x := y) (by omega) (by omega)
  refine EvP.ite (fun hc => ?_) (fun hc => ?_)
  · have hc : cov x y = 0 := hc
    refine EvP.bind1 sx (EvP.ite (fun hs => ?_) (fun hs => ?_))
    · have hs : cov x x ≠ 0 := of_decide_eq_true hs
      have hpq : p = q := hone.2 ⟨hc, .inl hs⟩
      refine EvP.pos (by rw [show (((p, q, (0 : Int)) : Int × Int × Int).1 == 1 && (((p, q, (0 : Int)) : Int × Int × Int).2.1 == 1)) = _ from rat_one v, decide_eq_true hpq]; rfl) (EvP.bind1 less (EvP.neg (show ¬ cov x y > 0 by omega) (EvP.bind1 sx (EvP.pos (decide_eq_true hs) (EvP.pos ?_ (EvP.bind1 awake_is (EvP.ret rfl)))))))
      rw [decide_eq_false (show ¬ p < q by omega)]
      rfl
    · have hs : cov x x = 0 := by simpa using hs
      refine EvP.bind1 sy (EvP.pos ?_ (EvP.bind1 less (EvP.neg (show ¬ cov x y > 0 by omega) (EvP.bind1 sx (EvP.neg (by simp [hs]) (EvP.bind1 sy (EvP.pos ?_ (EvP.bind1 awake_is (EvP.ret rfl)))))))))
      · rw [show (((p, q, (0 : Int)) : Int × Int × Int).1 == 1 && (((p, q, (0 : Int)) : Int × Int × Int).2.1 == 1)) = _ from rat_one v, beq_iff_eq, decide_eq_decide, hone]
        exact ⟨fun h => h.2.elim (fun g => absurd hs g) id, fun h => ⟨hc, .inr h⟩⟩
      · rw [beq_iff_eq, ← decide_not, decide_eq_decide, hlt]
        exact ⟨fun h => h.elim (fun g => by omega) (fun g h => h g.2), fun h => .inr ⟨hs, by simpa using h⟩⟩
  · have hc : cov x y ≠ 0 := hc
    have hnp : ¬ p = q := fun h => hc (hone.1 h).1
    have hl2 : p < q ↔ 0 < cov x y := hlt.trans ⟨fun h => h.elim id (fun g => absurd (hz (.inl g.1)) hc), .inl⟩
    refine EvP.pos (by rw [show (((p, q, (0 : Int)) : Int × Int × Int).1 == 1 && (((p, q, (0 : Int)) : Int × Int × Int).2.1 == 1)) = _ from rat_one v, decide_eq_false hnp]; rfl) (EvP.bind1 less (EvP.ite (fun h => ?_) (fun h => ?_)))
    · have h : cov x y > 0 := h
      refine EvP.pos ?_ (EvP.bind1 awake_is (EvP.ret rfl))
      rw [decide_eq_true (hl2.2 h)]
      rfl
    · have h : ¬ cov x y > 0 := h
      refine EvP.bind1 sx (EvP.pos (decide_eq_true (fun g => hc (hz (.inl g)))) (EvP.pos ?_ (EvP.bind1 awake_is (EvP.ret rfl))))
      rw [decide_eq_false (fun g => h (hl2.1 g))]
      rfl
theorem rev_step (x : List Int) (i : Nat) (h : i < x.length) : x.reverse.take i ++ [x[x.length - 1 - i]] = x.reverse.take (i + 1) := by
  have h' : i < x.reverse.length := by rw [List.length_reverse]; exact h
  rw [List.take_succ_eq_append_getElem h', List.getElem_reverse]
theorem range_l0 {x y : List Int} (hx : Smp x) (hy : Smp y) (h2 : 2 ≤ x.length) (h32 : x.length ≤ 32) (hl : x.length = y.length) (d : Nat) :
    ∀ i : Nat, i + d = x.length → EvP (fun k => shapesearchlaw13_NormalRange.l0 k x y (x.reverse.take i) (y.reverse.take i) (x.length : Int) (i : Int)) (fun r => r = true) := by
  induction d with
  | zero =>
    intro i hi
    have e1 : x.reverse.take i = x.reverse := List.take_of_length_le (by rw [List.length_reverse]; omega)
    have e2 : y.reverse.take i = y.reverse := List.take_of_length_le (by rw [List.length_reverse]; omega)
    rw [e1, e2]
    exact range_end hx hy h2 h32 hl _ _ (by omega)
  | succ d ih =>
    intro i hi
    have lt : i < x.length := by omega
    have lt' : i < y.length := by omega
    have e1 := rev_step x i lt
    have e2 := rev_step y i lt'
    have ei : wrap64 (wrap64 ((x.length : Int) - 1) - (i : Int)) = ((x.length - 1 - i : Nat) : Int) := by
      rw [w64 (n := (x.length : Int) - 1) (by omega) (by omega), w64 (by omega) (by omega)]
      omega
    have l1 : (x.reverse.take i).length = i := by rw [List.length_take, List.length_reverse]; omega
    have l2 : (y.reverse.take i).length = i := by rw [List.length_take, List.length_reverse]; omega
    refine EvP.step (fun k => by rw [shapesearchlaw13_NormalRange.l0]) (EvP.pos (by omega) ?_)
    rw [ei]
    refine EvP.pos (by omega) (EvP.pos (by omega) (EvP.bind1 (Ev.now _) (EvP.pos (by rw [l1]; simp only [List.length_cons, List.length_nil]; omega) (EvP.pos (by omega) (EvP.bind1 (Ev.now _) (EvP.pos (by rw [l2]; simp only [List.length_cons, List.length_nil]; omega) ?_))))))
    rw [w_succ (by omega), rd_nat x (x.length - 1 - i) (by omega), rd_nat y (x.length - 1 - i) (by omega)]
    have e2' : y.reverse.take i ++ [y[x.length - 1 - i]'(by omega)] = y.reverse.take (i + 1) := by
      rw [← e2]
      simp only [hl]
    rw [e1, e2']
    exact ih (i + 1) (by omega)
theorem NormalRange : shapesearchlaw13_NormalRange.Pure := by
  intro l0 h1 h2 h3
  refine EvP.rounds ?_
  unfold shapesearchlaw13_NormalRange.f
  refine EvP.bind (keep_New l0 h3 h1) (fun s hs => EvP.bind (keep_Pair s.1 s.2 hs) (fun p hp => ?_))
  obtain ⟨p1, pq, px, p2, p32, pl⟩ := hp
  have := range_l0 pq px p2 p32 (by omega) p.1.length 0 (by omega)
  rw [List.take_zero, List.take_zero] at this
  exact this

end Go.Proofs.Ytmckmjpfcgmalaa.Pure
