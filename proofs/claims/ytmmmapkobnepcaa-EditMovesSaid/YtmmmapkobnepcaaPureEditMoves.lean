/- This file proves that the edit distance does not change if both windows are reversed, or the same number is added to all samples and to the gap, nor if a sample that equals the gap is put in somewhere. -/
import Derived.Test.YtmmmapkobnepcaaPEditMovesx7
import Derived.Test.YtmmmapkobnepcaaBase
import Derived.Test.YtmmmapkobnepcaaMathEu
import Derived.Test.YtmmmapkobnepcaaXAlign
set_option linter.unusedVariables false
namespace Go.Proofs.Ytmmmapkobnepcaa.Pure
open Go.RowKit Go.Proofs.Ytmmmapkobnepcaa.PEditMoves Go.Proofs.YtmmmapkobnepcaaW.PrintWords Go.Proofs.YtmmmapkobnepcaaW.PrintLast Go.Proofs.YtmmmapkobnepcaaW.PrintMore Go.Proofs.Ytmmmapkobnepcaa.Base Go.Proofs.Ytmmmapkobnepcaa.MathEd
/-! ### numbers out of a list -/
theorem keep_New (l0 : List Int) (h : ∀ x ∈ l0, (Lit.int .i64 x).wf = true) (hl : l0.length ≤ maxLen) : EvP (fun _ => shapesearchkeep_New.f l0) (fun r => Src r.1 r.2) := by
  have e : mn (l0.length : Int) 2000 = ((min l0.length 2000 : Nat) : Int) := by unfold mn; split <;> omega
  unfold shapesearchkeep_New.f
  rw [e]
  refine EvP.pos (by omega) (EvP.pos (by omega) (EvP.ret ?_))
  refine ⟨Int.le_refl _, by omega, by rw [List.length_take]; omega, fun x hx => b_i64 (h x (List.mem_of_mem_take hx))⟩
theorem keep_Raw (s : List Int) (a : Int) (h : Src s a) : EvP (fun _ => shapesearchkeep_Src_Raw.f s a) (fun r => Src s r.2 ∧ -9223372036854775808 ≤ r.1 ∧ r.1 ≤ 9223372036854775807) := by
  obtain ⟨h0, h1, h2, h3⟩ := h
  unfold shapesearchkeep_Src_Raw.f
  refine EvP.ite (fun hc => EvP.ret ⟨⟨h0, h1, h2, h3⟩, by omega, by omega⟩) (fun hc => ?_)
  have hw : wrap64 (a + 1) = a + 1 := w64 (by omega) (by omega)
  have hw2 : wrap64 (a + 1 - 1) = a := by rw [w64 (by omega) (by omega)]; omega
  rw [hw, hw2]
  have hm := h3 _ (rd_mem s a h0 (by omega))
  exact EvP.pos h0 (EvP.pos (by omega) (EvP.ret ⟨⟨by omega, by omega, h2, h3⟩, hm⟩))
theorem keep_Mod (a n : Int) (ha : -9223372036854775808 ≤ a) (ha' : a ≤ 9223372036854775807) (hn : 1 ≤ n) (hn' : n ≤ 9223372036854775807) : EvP (fun _ => shapesearchkeep_Mod.f a n) (fun t => 0 ≤ t ∧ t < n) := by
  have h1 := Int.tmod_lt_of_pos a (show 0 < n by omega)
  have h2 := Int.lt_tmod_of_pos a (show 0 < n by omega)
  unfold shapesearchkeep_Mod.f
  refine EvP.neg (by omega) (EvP.neg (by omega) (EvP.ite (fun hc => EvP.ret ?_) (fun hc => EvP.ret ?_)))
  · rw [w64 (by omega) (by omega)]
    omega
  · omega
theorem keep_N (s : List Int) (a n : Int) (h : Src s a) (hn : 1 ≤ n) (hn' : n ≤ 9223372036854775807) : EvP (fun _ => shapesearchkeep_Src_N.f s a n) (fun r => Src s r.2 ∧ 0 ≤ r.1 ∧ r.1 < n) := by
  unfold shapesearchkeep_Src_N.f
  refine EvP.bind (keep_Raw s a h) (fun x hx => EvP.bind (keep_Mod x.1 n hx.2.1 hx.2.2 hn hn') (fun t ht => EvP.ret ⟨hx.1, ht⟩))
theorem keep_Range (s : List Int) (a lo hi : Int) (h : Src s a) (hlo : -1000000000000 ≤ lo) (hlh : lo ≤ hi) (hhi : hi ≤ 1000000000000) : EvP (fun _ => shapesearchkeep_Src_Range.f s a lo hi) (fun r => Src s r.2 ∧ lo ≤ r.1 ∧ r.1 ≤ hi) := by
  have e1 : wrap64 (hi - lo) = hi - lo := w64 (by omega) (by omega)
  have e2 : wrap64 (hi - lo + 1) = hi - lo + 1 := w64 (by omega) (by omega)
  unfold shapesearchkeep_Src_Range.f
  rw [e1, e2]
  refine EvP.bind (keep_N s a (hi - lo + 1) h (by omega) (by omega)) (fun x hx => EvP.ret ⟨hx.1, ?_⟩)
  have e3 : wrap64 (lo + x.1) = lo + x.1 := w64 (by omega) (by omega)
  show lo ≤ wrap64 (lo + x.1) ∧ wrap64 (lo + x.1) ≤ hi
  rw [e3]
  omega
theorem keep_Pick (s : List Int) (a : Int) (l : List Int) (h : Src s a) (hl : 1 ≤ l.length) (hl' : l.length ≤ 1000000) : EvP (fun _ => shapesearchkeep_Src_Pick.f s a l) (fun r => Src s r.2 ∧ r.1 ∈ l) := by
  unfold shapesearchkeep_Src_Pick.f
  exact EvP.bind (keep_N s a l.length h (by omega) (by omega)) (fun x hx => EvP.pos hx.2.1 (EvP.pos hx.2.2 (EvP.ret ⟨hx.1, rd_mem l x.1 hx.2.1 hx.2.2⟩)))
theorem keep_clip (x : Int) : EvP (fun _ => shapesearchkeep_clip.f x) (fun t => -1000 ≤ t ∧ t ≤ 1000) := by
  unfold shapesearchkeep_clip.f
  refine EvP.ret ⟨le_mn (Int.le_trans (by omega) (le_mx_right _ _)) (by omega), mn_le_right _ _⟩
theorem keep_List_l0 (s : List Int) (n kind size : Int) (hs : 1 ≤ size ∧ size ≤ 1000) (hn : 0 ≤ n ∧ n ≤ 100000) (d : Nat) :
    ∀ (x : Int) (out : List Int) (a : Int), Src s a → Smp out → -1000 ≤ x → x ≤ 1000 → out.length + d = n →
      EvP (fun k => shapesearchkeep_Src_List.l0 k n kind size x out out.length s a) (fun r => Src s r.2 ∧ Smp r.1 ∧ (r.1.length : Int) = n) := by
  have es : wrap64 (-size) = -size := w64 (by omega) (by omega)
  induction d with
  | zero =>
    intro x out a h ho hx hx' hd
    refine EvP.step (fun k => by rw [shapesearchkeep_Src_List.l0]) ?_
    exact EvP.neg (by omega) (EvP.ret ⟨h, ho, by dsimp only; omega⟩)
  | succ d ih =>
    intro x out a h ho hx hx' hd
    have ew : wrap64 ((out.length : Int) + 1) = (out.length : Int) + 1 := w64 (by omega) (by omega)
    have el : ∀ y : Int, (out.length : Int) + 1 = ((out ++ [y]).length : Nat) := fun y => by simp
    have push : ∀ (x' y a' : Int), Src s a' → -1000 ≤ x' → x' ≤ 1000 → -1000 ≤ y → y ≤ 1000 → EvP (fun k => shapesearchkeep_Src_List.l0 k n kind size x' (out ++ [y]) (wrap64 ((out.length : Int) + 1)) s a') (fun r => Src s r.2 ∧ Smp r.1 ∧ (r.1.length : Int) = n) := by
      intro x' y a' ha h1 h2 h3 h4
      rw [ew, el y]
      exact ih x' (out ++ [y]) a' ha (ho.snoc h3 h4) h1 h2 (by simp; omega)
    have hL : out.length < 17592186044416 := by omega
    have j3 : ∀ b : Bool, EvP (fun k => shapesearchkeep_Src_List.j3 k n kind size x out out.length kind b s a) (fun r => Src s r.2 ∧ Smp r.1 ∧ (r.1.length : Int) = n) := by
      intro b
      refine EvP.step (fun k => by rw [shapesearchkeep_Src_List.j3]) ?_
      refine EvP.ite (fun _ => ?_) (fun _ => EvP.ite (fun _ => ?_) (fun _ => ?_))
      · rw [es]
        refine EvP.bind (keep_Range s a (-size) size h (by omega) (by omega) (by omega)) (fun q hq => ?_)
        refine EvP.bind (keep_clip _) (fun t ht => EvP.pos hL (push t t q.2 hq.1 ht.1 ht.2 ht.1 ht.2))
      · refine EvP.bind (keep_N s a 4 h (by omega) (by omega)) (fun q hq => EvP.ite (fun _ => ?_) (fun _ => EvP.pos hL (push x x q.2 hq.1 hx hx' hx hx')))
        rw [es]
        exact EvP.bind (keep_Range s q.2 (-size) size hq.1 (by omega) (by omega) (by omega)) (fun p hp => EvP.pos hL (push p.1 p.1 p.2 hp.1 (by omega) (by omega) (by omega) (by omega)))
      · refine EvP.bind (keep_Pick s a [-1000, 1000, 1000, 0] h (by simp) (by simp)) (fun q hq => EvP.pos hL (push x q.1 q.2 hq.1 hx hx' ?_ ?_)) <;>
        · have := hq.2
          simp at this
          omega
    have j2 : ∀ b : Bool, EvP (fun k => shapesearchkeep_Src_List.j2 k n kind size x out out.length kind b s a) (fun r => Src s r.2 ∧ Smp r.1 ∧ (r.1.length : Int) = n) := by
      intro b
      refine EvP.step (fun k => by rw [shapesearchkeep_Src_List.j2]) ?_
      refine EvP.ite (fun _ => ?_) (fun _ => EvP.ite (fun _ => j3 _) (fun _ => j3 _))
      rw [es]
      exact EvP.bind (keep_Range s a (-size) size h (by omega) (by omega) (by omega)) (fun q hq => EvP.pos hL (push x q.1 q.2 hq.1 hx hx' (by omega) (by omega)))
    refine EvP.step (fun k => by rw [shapesearchkeep_Src_List.l0]) ?_
    exact EvP.pos (by omega) (EvP.ite (fun _ => j2 _) (fun _ => j2 _))
theorem keep_List (s : List Int) (a n : Int) (h : Src s a) (hn : 0 ≤ n) (hn' : n ≤ 100000) : EvP (fun k => shapesearchkeep_Src_List.f k s a n) (fun r => Src s r.2 ∧ Smp r.1 ∧ (r.1.length : Int) = n) := by
  unfold shapesearchkeep_Src_List.f
  refine EvP.bind (keep_N s a 6 h (by omega) (by omega)) (fun p hp => EvP.bind (keep_Pick s p.2 [1, 3, 10, 100, 1000] hp.1 (by simp) (by simp)) (fun q hq => ?_))
  have hq2 : 1 ≤ q.1 ∧ q.1 ≤ 1000 := by
    have := hq.2
    simp at this
    omega
  have j0 : ∀ x a', Src s a' → -1000 ≤ x → x ≤ 1000 → EvP (fun k => shapesearchkeep_Src_List.j0 k n p.1 q.1 x s a') (fun r => Src s r.2 ∧ Smp r.1 ∧ (r.1.length : Int) = n) := by
    intro x a' ha h1 h2
    refine EvP.step (fun k => by rw [shapesearchkeep_Src_List.j0]) ?_
    exact keep_List_l0 s n p.1 q.1 hq2 ⟨hn, hn'⟩ n.toNat x [] a' ha Smp.nil h1 h2 (by simp; omega)
  refine EvP.bind (keep_N s q.2 3 hq.1 (by omega) (by omega)) (fun r hr => EvP.ite (fun _ => ?_) (fun _ => j0 0 r.2 hr.1 (by omega) (by omega)))
  exact EvP.bind (keep_Range s r.2 (-1000) 1000 hr.1 (by omega) (by omega) (by omega)) (fun v hv => j0 v.1 v.2 hv.1 (by omega) (by omega))
theorem keep_Near_l0 (s x : List Int) (kind by_ q : Int) (hx : Smp x) (hn : 1 ≤ x.length) (hn' : x.length ≤ 100000) (d : Nat) :
    ∀ (out : List Int) (i : Int) (a : Int), Src s a → Smp out → out.length = x.length → 0 ≤ i → i + d = x.length →
      EvP (fun k => shapesearchkeep_Src_Near.l0 k x kind by_ q out (x.length : Int) i s a) (fun r => Src s r.2 ∧ Smp r.1 ∧ r.1.length = x.length) := by
  induction d with
  | zero =>
    intro out i a h ho hl hi hd
    refine EvP.step (fun k => by rw [shapesearchkeep_Src_Near.l0]) ?_
    exact EvP.neg (by omega) (EvP.ret ⟨h, ho, hl⟩)
  | succ d ih =>
    intro out i a h ho hl hi hd
    have ew : wrap64 (i + 1) = i + 1 := w64 (by omega) (by omega)
    have next : ∀ (out' : List Int) (a' : Int), Src s a' → Smp out' → out'.length = x.length → EvP (fun k => shapesearchkeep_Src_Near.l0 k x kind by_ q out' (x.length : Int) (wrap64 (i + 1)) s a') (fun r => Src s r.2 ∧ Smp r.1 ∧ r.1.length = x.length) := by
      intro out' a' h1 h2 h3
      rw [ew]
      exact ih out' (i + 1) a' h1 h2 h3 (by omega) (by omega)
    have put : ∀ (y a' : Int), Src s a' → -1000 ≤ y → y ≤ 1000 → EvP (fun k => shapesearchkeep_Src_Near.l0 k x kind by_ q (out.set (i : Int).toNat y) (x.length : Int) (wrap64 (i + 1)) s a') (fun r => Src s r.2 ∧ Smp r.1 ∧ r.1.length = x.length) :=
      fun y a' h1 h2 h3 => next _ a' h1 (ho.set _ h2 h3) (by simp [hl])
    have hlt : i < (out.length : Int) := by omega
    refine EvP.step (fun k => by rw [shapesearchkeep_Src_Near.l0]) ?_
    refine EvP.pos (by omega) ?_
    refine EvP.ite (fun _ => EvP.pos hi (EvP.pos hlt ?_)) (fun _ => ?_)
    · exact EvP.bind (keep_Range s a (-2) 2 h (by omega) (by omega) (by omega)) (fun p hp => EvP.bind (keep_clip _) (fun t ht => put t p.2 hp.1 ht.1 ht.2))
    refine EvP.ite (fun _ => EvP.pos hi (EvP.pos hlt ?_)) (fun _ => ?_)
    · exact EvP.bind (keep_clip _) (fun t ht => put t a h ht.1 ht.2)
    refine EvP.ite (fun _ => EvP.pos hi (EvP.pos hlt ?_)) (fun _ => ?_)
    · exact EvP.bind (keep_clip _) (fun t ht => put t a h ht.1 ht.2)
    refine EvP.ite (fun _ => ?_) (fun _ => ?_)
    · have e1 : wrap64 ((x.length : Int) - 1) = (x.length : Int) - 1 := w64 (by omega) (by omega)
      have e2 : wrap64 ((x.length : Int) - 1 - i) = (x.length : Int) - 1 - i := w64 (by omega) (by omega)
      rw [e1, e2]
      have hr := hx.at ((x.length : Int) - 1 - i) (by omega) (by omega)
      exact EvP.pos (by omega) (EvP.pos (by omega) (EvP.pos hi (EvP.pos hlt (put _ a h hr.1 hr.2))))
    refine EvP.ite (fun _ => ?_) (fun _ => ?_)
    · refine EvP.bind (keep_Range s a (-1) 1 h (by omega) (by omega) (by omega)) (fun p hp => ?_)
      refine EvP.bind (keep_Mod _ _ (w64_lo _) (w64_hi _) (by omega) (by omega)) (fun t ht => ?_)
      have hr := hx.at t ht.1 ht.2
      exact EvP.pos ht.1 (EvP.pos ht.2 (EvP.pos hi (EvP.pos hlt (put _ p.2 hp.1 hr.1 hr.2))))
    refine EvP.ite (fun _ => EvP.pos hi (EvP.pos hlt ?_)) (fun _ => next out a h ho hl)
    exact EvP.bind (keep_clip _) (fun t ht => put t a h ht.1 ht.2)
theorem keep_Near (s : List Int) (a : Int) (x : List Int) (h : Src s a) (hx : Smp x) (hn : 1 ≤ x.length) (hn' : x.length ≤ 100000) : EvP (fun k => shapesearchkeep_Src_Near.f k s a x) (fun r => Src s r.2 ∧ Smp r.1 ∧ r.1.length = x.length) := by
  unfold shapesearchkeep_Src_Near.f
  refine EvP.bind (keep_N s a 7 h (by omega) (by omega)) (fun p hp => EvP.bind (keep_Range s p.2 (-20) 20 hp.1 (by omega) (by omega) (by omega)) (fun q hq => EvP.bind (keep_Range s q.2 1 3 hq.1 (by omega) (by omega) (by omega)) (fun r hr => ?_)))
  refine EvP.bind (Ev.evp (Ev.now _)) (fun y hy => ?_)
  subst hy
  refine EvP.pos (by simp; omega) (EvP.bind (Ev.evp (Ev.now _)) (fun z hz => ?_))
  have hz' : z = x := hz
  rw [hz']
  exact keep_Near_l0 s x p.1 q.1 r.1 hx hn hn' x.length x 0 r.2 hr.1 hx rfl (by omega) (by omega)
theorem keep_Length (s : List Int) (a : Int) (h : Src s a) : EvP (fun _ => shapesearchkeep_Src_Length.f s a) (fun r => Src s r.2 ∧ 2 ≤ r.1 ∧ r.1 ≤ 32) := by
  unfold shapesearchkeep_Src_Length.f
  refine EvP.bind (keep_N s a 8 h (by omega) (by omega)) (fun p hp => EvP.ite (fun _ => ?_) (fun _ => ?_))
  · exact EvP.bind (keep_Range s p.2 13 32 hp.1 (by omega) (by omega) (by omega)) (fun q hq => EvP.ret ⟨hq.1, by have := hq.2; omega⟩)
  · exact EvP.bind (keep_Range s p.2 2 12 hp.1 (by omega) (by omega) (by omega)) (fun q hq => EvP.ret ⟨hq.1, by have := hq.2; omega⟩)
theorem keep_Pair (s : List Int) (a : Int) (h : Src s a) : EvP (fun k => shapesearchkeep_Src_Pair.f k s a) (fun r => Src s r.2.2 ∧ Smp r.1 ∧ Smp r.2.1 ∧ 2 ≤ r.1.length ∧ r.1.length ≤ 32 ∧ r.2.1.length = r.1.length) := by
  unfold shapesearchkeep_Src_Pair.f
  refine EvP.bind (keep_Length s a h) (fun n hn => EvP.bind (keep_List s n.2 n.1 hn.1 (by omega) (by omega)) (fun x hx => EvP.bind (keep_N s x.2 3 hx.1 (by omega) (by omega)) (fun p hp => ?_)))
  obtain ⟨hx0, hx1, hx2⟩ := hx
  refine EvP.ite (fun _ => ?_) (fun _ => ?_)
  · refine EvP.bind (keep_List s p.2 (x.1.length : Int) hp.1 (by omega) (by omega)) (fun y hy => EvP.ret ⟨hy.1, hx1, hy.2.1, by dsimp only; omega, by dsimp only; omega, by have := hy.2.2; dsimp only; omega⟩)
  · exact EvP.bind (keep_Near s p.2 x.1 hp.1 hx1 (by omega) (by omega)) (fun y hy => EvP.ret ⟨hy.1, hx1, hy.2.1, by dsimp only; omega, by dsimp only; omega, hy.2.2⟩)
/-! ### windows, and their distances -/
def lenb (x : List Int) : Bool := decide (2 ≤ x.length ∧ x.length ≤ 32)
def smpb (x : List Int) : Bool := x.all fun v => decide (-1000 ≤ v ∧ v ≤ 1000)
theorem smpb_iff (x : List Int) : smpb x = true ↔ Smp x := by
  unfold smpb Smp
  simp [List.all_eq_true]
theorem euclid_length_is (x : List Int) : euclid_length.f x = some (lenb x) := by
  unfold euclid_length.f lenb
  split
  · rename_i h
    congr 1
    rw [Bool.eq_iff_iff]
    simp
    omega
  · rename_i h
    congr 1
    symm
    simp
    omega
theorem euclid_samples_l0 (x : List Int) (hn : x.length ≤ 1000000000) (d : Nat) : ∀ i : Nat, i + d = x.length → Ev (fun k => euclid_samples.l0 k x (x.length : Int) (i : Int)) (smpb (x.drop i)) := by
  induction d with
  | zero =>
    intro i hi
    refine Ev.step (fun k => by rw [euclid_samples.l0]) (Ev.neg (by omega) ?_)
    rw [List.drop_eq_nil_of_le (by omega)]
    exact Ev.now _
  | succ d ih =>
    intro i hi
    have hlt : i < x.length := by omega
    refine Ev.step (fun k => by rw [euclid_samples.l0]) (Ev.pos (by omega) (Ev.pos (by omega) (Ev.pos (by omega) ?_)))
    have e : wrap64 ((i : Int) + 1) = ((i + 1 : Nat) : Int) := by rw [w64 (by omega) (by omega)]; omega
    rw [rd_nat x i hlt, List.drop_eq_getElem_cons hlt, e]
    have hc : smpb (x[i] :: x.drop (i + 1)) = (decide (-1000 ≤ x[i] ∧ x[i] ≤ 1000) && smpb (x.drop (i + 1))) := by unfold smpb; rw [List.all_cons]
    rw [hc]
    by_cases h1 : x[i] < -1000
    · rw [decide_eq_false (by omega)]
      exact Ev.pos h1 (Ev.now _)
    · refine Ev.neg h1 ?_
      by_cases h2 : x[i] > 1000
      · rw [decide_eq_false (by omega)]
        exact Ev.pos h2 (Ev.now _)
      · refine Ev.neg h2 ?_
        rw [decide_eq_true (by omega), Bool.true_and]
        exact ih (i + 1) (by omega)
theorem euclid_samples_is (x : List Int) (hn : x.length ≤ 1000000000) : Ev (fun k => euclid_samples.f k x) (smpb x) := by
  have := euclid_samples_l0 x hn x.length 0 (by omega)
  exact this
/-- The first error of two windows of one length. -/
def chk (x y : List Int) : Int := if lenb x = true ∧ lenb y = true then (if smpb x = true ∧ smpb y = true then (if x.length = y.length then 0 else 8) else 12) else 8
theorem euclid_check_is (x y : List Int) (hx : x.length ≤ 1000000000) (hy : y.length ≤ 1000000000) : Ev (fun k => euclid_check.f k x y) (chk x y) := by
  unfold chk
  have j1 : ∀ b : Bool, Ev (fun k => euclid_check.j1 k x y b) (if b = true then 12 else if x.length = y.length then 0 else 8) := by
    intro b
    refine Ev.step (fun k => by rw [euclid_check.j1]) ?_
    cases b with
    | true => exact Ev.pos rfl (Ev.now _)
    | false =>
      refine Ev.neg (by simp) ?_
      by_cases h : x.length = y.length
      · have e : (if false = true then (12 : Int) else if x.length = y.length then 0 else 8) = 0 := by simp [h]
        rw [e]
        exact Ev.pos (by omega) (Ev.now _)
      · have e : (if false = true then (12 : Int) else if x.length = y.length then 0 else 8) = 8 := by simp [h]
        rw [e]
        exact Ev.neg (by omega) (Ev.now _)
  have j0 : ∀ b : Bool, Ev (fun k => euclid_check.j0 k x y b) (if b = true then 8 else if smpb x = true ∧ smpb y = true then (if x.length = y.length then 0 else 8) else 12) := by
    intro b
    refine Ev.step (fun k => by rw [euclid_check.j0]) ?_
    cases b with
    | true => exact Ev.pos rfl (Ev.now _)
    | false =>
      refine Ev.neg (by simp) (Ev.bind (euclid_samples_is x hx) ?_)
      rw [if_neg (by simp)]
      cases hsx : smpb x with
      | true =>
        refine Ev.pos rfl (Ev.bind (euclid_samples_is y hy) ?_)
        have := j1 (!smpb y)
        cases hsy : smpb y <;> simpa [hsy] using this
      | false =>
        refine Ev.neg (by simp) ?_
        simpa using j1 true
  unfold euclid_check.f
  rw [euclid_length_is x, euclid_length_is y]
  refine Ev.bind (Ev.now _) ?_
  cases hlx : lenb x with
  | true =>
    refine Ev.pos rfl (Ev.bind (Ev.now _) ?_)
    have := j0 (!lenb y)
    cases hly : lenb y <;> simpa [hly] using this
  | false =>
    refine Ev.neg (by simp) ?_
    simpa using j0 true
theorem euclid_square_l0 (x y : List Int) (hx : Smp x) (hy : Smp y) (hl : x.length = y.length) (hn : x.length ≤ 100000) (d : Nat) :
    ∀ (i : Nat) (s : Int), i + d = x.length → 0 ≤ s → s ≤ 4000000 * i → Ev (fun k => euclid_square.l0 k y s x (x.length : Int) (i : Int)) (s + sqd (x.drop i) (y.drop i)) := by
  induction d with
  | zero =>
    intro i s hi h0 h1
    refine Ev.step (fun k => by rw [euclid_square.l0]) (Ev.neg (by omega) ?_)
    rw [List.drop_eq_nil_of_le (by omega)]
    simp only [sqd, Int.add_zero]
    exact Ev.now _
  | succ d ih =>
    intro i s hi h0 h1
    have hlt : i < x.length := by omega
    have hlt' : i < y.length := by omega
    have bx := hx x[i] (List.getElem_mem _)
    have by_ := hy y[i] (List.getElem_mem _)
    refine Ev.step (fun k => by rw [euclid_square.l0]) (Ev.pos (by omega) (Ev.pos (by omega) (Ev.pos (by omega) (Ev.pos (by omega) ?_))))
    have e : wrap64 ((i : Int) + 1) = ((i + 1 : Nat) : Int) := by rw [w64 (by omega) (by omega)]; omega
    have b1 := sqnn (x[i] - y[i])
    have b2 := abs_sq (a := x[i] - y[i]) (m := 2000) (by omega) (by omega)
    rw [rd_nat x i hlt, rd_nat y i hlt', List.drop_eq_getElem_cons hlt, List.drop_eq_getElem_cons hlt', e]
    have e1 : wrap64 (x[i] - y[i]) = x[i] - y[i] := w64 (by omega) (by omega)
    rw [e1]
    have e2 : wrap64 ((x[i] - y[i]) * (x[i] - y[i])) = (x[i] - y[i]) * (x[i] - y[i]) := w64 (by omega) (by omega)
    rw [e2]
    have e3 : wrap64 (s + (x[i] - y[i]) * (x[i] - y[i])) = s + (x[i] - y[i]) * (x[i] - y[i]) := w64 (by omega) (by omega)
    rw [e3]
    simp only [sqd]
    rw [← Int.add_assoc]
    exact ih (i + 1) _ (by omega) (by omega) (by omega)
theorem euclid_square_is (x y : List Int) (hx : Smp x) (hy : Smp y) (hl : x.length = y.length) (hn : x.length ≤ 100000) : Ev (fun k => euclid_square.f k x y) (sqd x y) := by
  have := euclid_square_l0 x y hx hy hl hn x.length 0 0 (by omega) (by omega) (by omega)
  simp only [List.drop_zero, Int.zero_add] at this
  exact this
theorem chk_ok {x y : List Int} (hx : Smp x) (hy : Smp y) (h2 : 2 ≤ x.length) (h32 : x.length ≤ 32) (hl : x.length = y.length) : chk x y = 0 := by
  unfold chk lenb
  rw [if_pos ⟨decide_eq_true ⟨h2, h32⟩, decide_eq_true (by omega)⟩, if_pos ⟨(smpb_iff x).2 hx, (smpb_iff y).2 hy⟩, if_pos hl]
theorem chk_zero {x y : List Int} (h : chk x y = 0) : Smp x ∧ Smp y ∧ 2 ≤ x.length ∧ x.length ≤ 32 ∧ x.length = y.length := by
  unfold chk at h
  split at h
  · rename_i h1
    split at h
    · rename_i h2
      split at h
      · rename_i h3
        have := of_decide_eq_true h1.1
        exact ⟨(smpb_iff x).1 h2.1, (smpb_iff y).1 h2.2, this.1, this.2, h3⟩
      · omega
    · omega
  · omega
theorem euclid_Distance_is (x y : List Int) (hx : x.length ≤ 1000000000) (hy : y.length ≤ 1000000000) : Ev (fun k => euclid_Distance.f k x y) (if chk x y = 0 then (sqd x y, 0) else (0, chk x y)) := by
  unfold euclid_Distance.f
  refine Ev.bind (euclid_check_is x y hx hy) ?_
  by_cases h : chk x y = 0
  · rw [if_pos h]
    obtain ⟨h1, h2, h3, h4, h5⟩ := chk_zero h
    exact Ev.pos h (Ev.bind (euclid_square_is x y h1 h2 h5 (by omega)) (Ev.now _))
  · rw [if_neg h]
    exact Ev.neg h (Ev.now _)
theorem euclid_Distance_ok {x y : List Int} (hx : Smp x) (hy : Smp y) (h2 : 2 ≤ x.length) (h32 : x.length ≤ 32) (hl : x.length = y.length) : Ev (fun k => euclid_Distance.f k x y) (sqd x y, 0) := by
  have := euclid_Distance_is x y (by omega) (by omega)
  rwa [if_pos (chk_ok hx hy h2 h32 hl)] at this
theorem sqd_big {x y : List Int} (hx : Smp x) (hy : Smp y) (h32 : x.length ≤ 32) : sqd x y ≤ 128000000 := by
  have := sqd_le 1000 x y hx hy
  omega
theorem keep_Ints_l0 (x y : List Int) (hl : x.length = y.length) (hn : x.length ≤ 1000000000) (d : Nat) : ∀ i : Nat, i + d = x.length → Ev (fun k => shapesearchkeep_Ints.l0 k x y (x.length : Int) (i : Int)) (decide (x.drop i = y.drop i)) := by
  induction d with
  | zero =>
    intro i hi
    refine Ev.step (fun k => by rw [shapesearchkeep_Ints.l0]) (Ev.neg (by omega) ?_)
    rw [List.drop_eq_nil_of_le (by omega), List.drop_eq_nil_of_le (by omega)]
    exact Ev.now _
  | succ d ih =>
    intro i hi
    have hlt : i < x.length := by omega
    have hlt' : i < y.length := by omega
    refine Ev.step (fun k => by rw [shapesearchkeep_Ints.l0]) (Ev.pos (by omega) (Ev.pos (by omega) (Ev.pos (by omega) (Ev.pos (by omega) ?_))))
    have e : wrap64 ((i : Int) + 1) = ((i + 1 : Nat) : Int) := by rw [w64 (by omega) (by omega)]; omega
    rw [rd_nat x i hlt, rd_nat y i hlt', List.drop_eq_getElem_cons hlt, List.drop_eq_getElem_cons hlt', e]
    by_cases h : x[i] = y[i]
    · refine Ev.pos h ?_
      have : decide (x[i] :: x.drop (i + 1) = y[i] :: y.drop (i + 1)) = decide (x.drop (i + 1) = y.drop (i + 1)) := by rw [h, decide_eq_decide, List.cons.injEq]; exact ⟨fun e => e.2, fun e => ⟨rfl, e⟩⟩
      rw [this]
      exact ih (i + 1) (by omega)
    · rw [decide_eq_false (fun e' => h (List.cons.inj e').1)]
      exact Ev.neg h (Ev.now _)
theorem keep_Ints_is (x y : List Int) (hn : x.length ≤ 1000000000) : Ev (fun k => shapesearchkeep_Ints.f k x y) (decide (x = y)) := by
  unfold shapesearchkeep_Ints.f
  by_cases h : x.length = y.length
  · have := keep_Ints_l0 x y h hn x.length 0 (by omega)
    simp only [List.drop_zero] at this
    exact Ev.pos (by omega) this
  · rw [decide_eq_false (fun e => h (by rw [e]))]
    exact Ev.neg (by omega) (Ev.now _)
/-! ### two windows and a gap; their distance -/
def Win (x : List Int) : Prop := Smp x ∧ 2 ≤ x.length ∧ x.length ≤ 32
theorem some_is (s : List Int) (a : Int) (h : Src s a) : EvP (fun k => shapesearchlaw15_some.f k s a) (fun r => Win r.1 ∧ Win r.2.1 ∧ -1000 ≤ r.2.2.1 ∧ r.2.2.1 ≤ 1000 ∧ Src s r.2.2.2) := by
  have hp : ∀ g : Int, g ∈ ([0, 0, 1, (-5), 30, 1000] : List Int) → -1000 ≤ g ∧ g ≤ 1000 := by
    intro g hg
    simp at hg
    omega
  unfold shapesearchlaw15_some.f
  refine EvP.bind (keep_Pair s a h) (fun p hp1 => ?_)
  obtain ⟨p1, px, py, p2, p32, pl⟩ := hp1
  refine EvP.bind (keep_N s p.2.2 2 p1 (by omega) (by omega)) (fun q hq => EvP.ite (fun _ => ?_) (fun _ => ?_))
  · refine EvP.bind (keep_Range s q.2 2 (p.2.1.length : Int) hq.1 (by omega) (by omega) (by omega)) (fun m hm => EvP.pos (by omega) (EvP.pos (by omega) (EvP.bind (keep_Pick s m.2 _ hm.1 (by simp) (by simp)) (fun v hv => EvP.ret ?_))))
    have := hp v.1 hv.2
    exact ⟨⟨px, p2, p32⟩, ⟨py.take _, by rw [List.length_take]; omega, by rw [List.length_take]; omega⟩, this.1, this.2, hv.1⟩
  · refine EvP.bind (keep_Pick s q.2 _ hq.1 (by simp) (by simp)) (fun v hv => EvP.ret ?_)
    have := hp v.1 hv.2
    exact ⟨⟨px, p2, p32⟩, ⟨py, by dsimp only; omega, by dsimp only; omega⟩, this.1, this.2, hv.1⟩
theorem edit_check_is (x y : List Int) (g : Int) (hx : x.length ≤ 1000000000) (hy : y.length ≤ 1000000000) : Ev (fun k => edit_check.f k x y g) (if g < -1000 ∨ g > 1000 then 1 else if chk x x = 8 ∨ chk y y = 8 then 8 else mx (chk x x) (chk y y)) := by
  have e2 : ∀ z : List Int, (if chk z z = 0 then (sqd z z, (0 : Int)) else (0, chk z z)).2 = chk z z := by
    intro z
    split
    · rename_i h; rw [h]
    · rfl
  have j0 : ∀ b : Bool, Ev (fun k => edit_check.j0 k x y b) (if b = true then 1 else if chk x x = 8 ∨ chk y y = 8 then 8 else mx (chk x x) (chk y y)) := by
    intro b
    refine Ev.step (fun k => by rw [edit_check.j0]) ?_
    cases b with
    | true => exact Ev.pos rfl (Ev.now _)
    | false =>
      refine Ev.neg (by simp) (Ev.bind (euclid_Distance_is x x hx hx) (Ev.bind (euclid_Distance_is y y hy hy) ?_))
      rw [e2, e2, if_neg (show ¬ (false = true) by simp)]
      by_cases h1 : chk x x = 8
      · rw [if_pos (show chk x x = 8 ∨ chk y y = 8 from .inl h1)]
        exact Ev.pos h1 (Ev.now _)
      · refine Ev.neg h1 ?_
        by_cases h2 : chk y y = 8
        · rw [if_pos (show chk x x = 8 ∨ chk y y = 8 from .inr h2)]
          exact Ev.pos h2 (Ev.now _)
        · rw [if_neg (show ¬ (chk x x = 8 ∨ chk y y = 8) by omega)]
          exact Ev.neg h2 (Ev.now _)
  unfold edit_check.f
  by_cases h : g < -1000
  · have := j0 true
    rw [if_pos rfl] at this
    rw [if_pos (.inl h)]
    exact Ev.pos h this
  · have := j0 (decide (g > 1000))
    by_cases h' : g > 1000
    · rw [decide_eq_true h', if_pos rfl] at this
      rw [if_pos (.inr h'), decide_eq_true h']
      exact Ev.neg h this
    · rw [decide_eq_false h', if_neg (by simp)] at this
      rw [if_neg (by omega), decide_eq_false h']
      exact Ev.neg h this
theorem chk_win {x : List Int} (h : Win x) : chk x x = 0 := chk_ok h.1 h.1 h.2.1 h.2.2 rfl
theorem edit_check_ok {x y : List Int} {g : Int} (hx : Win x) (hy : Win y) (h1 : -1000 ≤ g) (h2 : g ≤ 1000) : Ev (fun k => edit_check.f k x y g) 0 := by
  have hx32 := hx.2.2
  have hy32 := hy.2.2
  have := edit_check_is x y g (by omega) (by omega)
  rw [if_neg (by omega), chk_win hx, chk_win hy, if_neg (by omega)] at this
  exact this
theorem ok_win {x y : List Int} {g : Int} (hx : Win x) (hy : Win y) (h1 : -1000 ≤ g) (h2 : g ≤ 1000) : X.Ok x y g := ⟨hx.1, hy.1, ⟨h1, h2⟩, hx.2.2, hy.2.2⟩
theorem dist_ok {x y : List Int} {g : Int} (hx : Win x) (hy : Win y) (h1 : -1000 ≤ g) (h2 : g ≤ 1000) : Ev (fun k => edit_Distance.f k x y g) (ed g x y, 0) := by
  unfold edit_Distance.f
  exact Ev.bind (edit_check_ok hx hy h1 h2) (Ev.pos rfl (Ev.pos (ok_win hx hy h1 h2) (Ev.now _)))
theorem reverse_l0 (t : List Int) (hn : t.length ≤ 1000000) (d : Nat) : ∀ (i : Nat) (j : Int) (c : List Int), j = (t.length : Int) - 1 - i → j - i ≤ 2 * d → c.length = t.length → (∀ q : Nat, q < t.length → c[q]? = if i ≤ q ∧ (q : Int) ≤ j then t[t.length - 1 - q]? else t[q]?) →
    Ev (fun k => slices_Reverse_int_int.l0 k c (i : Int) j) t := by
  have fin : ∀ (i : Nat) (j : Int) (c : List Int), j = (t.length : Int) - 1 - i → ¬ (i : Int) < j → c.length = t.length → (∀ q : Nat, q < t.length → c[q]? = if i ≤ q ∧ (q : Int) ≤ j then t[t.length - 1 - q]? else t[q]?) → c = t := by
    intro i j c hj hlt hl hq
    apply List.ext_getElem?
    intro q
    rcases Nat.lt_or_ge q t.length with h | h
    · rw [hq q h]
      split
      · rw [show t.length - 1 - q = q by omega]
      · rfl
    · rw [List.getElem?_eq_none (by omega), List.getElem?_eq_none h]
  induction d with
  | zero =>
    intro i j c hj hd hl hq
    rw [fin i j c hj (by omega) hl hq]
    exact Ev.step (fun k => by rw [slices_Reverse_int_int.l0]) (Ev.neg (by omega) (Ev.now _))
  | succ d ih =>
    intro i j c hj hd hl hq
    by_cases hlt : (i : Int) < j
    · obtain ⟨m, rfl⟩ := Int.eq_ofNat_of_zero_le (show 0 ≤ j by omega)
      have hm : m < c.length := by omega
      have hi : i < c.length := by omega
      have e1 : rd c (m : Int) = c[m] := rd_nat c m hm
      have e2 : rd c (i : Int) = c[i] := rd_nat c i hi
      refine Ev.step (fun k => by rw [slices_Reverse_int_int.l0]) (Ev.pos hlt (Ev.pos (by omega) (Ev.pos (by omega) (Ev.pos (by omega) (Ev.pos (by omega) ?_)))))
      rw [w64 (n := (i : Int) + 1) (by omega) (by omega), w64 (n := (m : Int) - 1) (by omega) (by omega), e1, e2, Int.toNat_natCast, Int.toNat_natCast]
      refine ih (i + 1) ((m : Int) - 1) _ (by omega) (by omega) (by rw [List.length_set, List.length_set, hl]) (fun q hqt => ?_)
      have hmi : c[m]? = t[i]? := by rw [hq m (by omega), if_pos (by omega), show t.length - 1 - m = i by omega]
      have him : c[i]? = t[m]? := by rw [hq i (by omega), if_pos (by omega), show t.length - 1 - i = m by omega]
      rw [List.getElem?_eq_getElem hm] at hmi
      rw [List.getElem?_eq_getElem hi] at him
      rw [List.getElem?_set, List.getElem?_set, List.length_set]
      by_cases c1 : m = q
      · subst c1
        rw [if_pos rfl, if_pos (by omega), if_neg (by omega)]
        exact him
      · rw [if_neg c1]
        by_cases c2 : i = q
        · subst c2
          rw [if_pos rfl, if_pos (by omega), if_neg (by omega)]
          exact hmi
        · rw [if_neg c2, hq q hqt]
          by_cases c3 : i ≤ q ∧ (q : Int) ≤ (m : Int)
          · rw [if_pos c3, if_pos (by omega)]
          · rw [if_neg c3, if_neg (by omega)]
    · rw [fin i j c hj hlt hl hq]
      exact Ev.step (fun k => by rw [slices_Reverse_int_int.l0]) (Ev.neg hlt (Ev.now _))
theorem reverse_is (l : List Int) (hn : l.length ≤ 1000000) : Ev (fun k => slices_Reverse_int_int.f k l) l.reverse := by
  have hl : l.reverse.length = l.length := List.length_reverse
  unfold slices_Reverse_int_int.f
  rw [w64 (by omega) (by omega)]
  refine reverse_l0 l.reverse (by omega) l.length 0 _ l (by rw [hl]; omega) (by omega) hl.symm (fun q hq => ?_)
  rw [hl] at hq
  rw [if_pos (by omega), hl, List.getElem?_reverse (by omega), show l.length - 1 - (l.length - 1 - q) = q by omega]
theorem align_ok {x y : List Int} {g : Int} (hx : Win x) (hy : Win y) (h1 : -1000 ≤ g) (h2 : g ≤ 1000) : Ev (fun k => edit_Align.f k x y g) ((X.trace g x y (x.length + y.length) x.length y.length).reverse, 0) := by
  have hx32 := hx.2.2
  have hy32 := hy.2.2
  have hl := X.trace_len (g := g) (x := x) (y := y) (x.length + y.length) x.length y.length
  unfold edit_Align.f
  exact Ev.bind (edit_check_ok hx hy h1 h2) (Ev.pos rfl (Ev.pos (ok_win hx hy h1 h2) (Ev.bind (reverse_is _ (by omega)) (Ev.now _))))
theorem win_of {x : List Int} (h : ∀ v ∈ x, -1000 ≤ v ∧ v ≤ 1000) (h2 : 2 ≤ x.length) (h32 : x.length ≤ 32) : Win x := ⟨h, h2, h32⟩
theorem awake_is : Ev (fun k => shapesearchlaw15_awake.f k) true := by
  have w1 : Win [1, 2, 3] := win_of (by decide) (by decide) (by decide)
  have w2 : Win [1, 3] := win_of (by decide) (by decide) (by decide)
  have w3 : Win [0, 3] := win_of (by decide) (by decide) (by decide)
  have w4 : Win [3, 0] := win_of (by decide) (by decide) (by decide)
  have e1 : ed 0 [1, 2, 3] [1, 3] = 2 := by decide +kernel
  have e2 : (X.trace 0 [0, 3] [3, 0] (2 + 2) 2 2).reverse = [2, 1, 3] := by decide +kernel
  have d1 := dist_ok w1 w2 (g := 0) (by omega) (by omega)
  have d2 := align_ok w3 w4 (g := 0) (by omega) (by omega)
  rw [e1] at d1
  have d3 : Ev (fun k => edit_Align.f k [0, 3] [3, 0] 0) ([2, 1, 3], 0) := by rw [← e2]; exact d2
  have d4 := keep_Ints_is [2, 1, 3] [2, 1, 3] (by simp)
  unfold shapesearchlaw15_awake.f
  refine Ev.bind d1 (Ev.bind d3 (Ev.pos rfl (Ev.pos rfl (Ev.pos rfl (Ev.bind d4 ?_)))))
  have e : decide (([2, 1, 3] : List Int) = [2, 1, 3]) = true := by decide
  rw [e]
  exact Ev.now _
/-- Samples of moderate size. -/
def Mild (l : List Int) : Prop := ∀ v ∈ l, -800 ≤ v ∧ v ≤ 800
theorem fifths {v : Int} (h1 : -1000 ≤ v) (h2 : v ≤ 1000) : wrap64 (Int.tdiv (wrap64 (v * 4)) 5) = Int.tdiv (v * 4) 5 ∧ -800 ≤ Int.tdiv (v * 4) 5 ∧ Int.tdiv (v * 4) 5 ≤ 800 := by
  have e : wrap64 (v * 4) = v * 4 := w64 (by omega) (by omega)
  have h : -800 ≤ Int.tdiv (v * 4) 5 ∧ Int.tdiv (v * 4) 5 ≤ 800 := by
    rcases Int.le_total 0 v with hv | hv
    · rw [Int.tdiv_eq_ediv_of_nonneg (by omega)]
      omega
    · have h3 := Int.neg_tdiv (v * 4) 5
      rw [Int.tdiv_eq_ediv_of_nonneg (a := -(v * 4)) (by omega)] at h3
      omega
  rw [e]
  exact ⟨w64 (by omega) (by omega), h⟩
theorem set_take (x : List Int) (i : Nat) (v : Int) (h : i < x.length) : (x.set i v).take (i + 1) = x.take i ++ [v] ∧ rd (x.set i v) (i : Int) = v := by
  have hl : i < (x.set i v).length := by rw [List.length_set]; exact h
  refine ⟨?_, ?_⟩
  · rw [List.take_succ_eq_append_getElem hl, List.getElem_set_self]
    congr 1
    apply List.ext_getElem?
    intro q
    rw [List.getElem?_take, List.getElem?_take]
    split
    · rw [List.getElem?_set_ne (by omega)]
    · rfl
  · rw [rd_nat _ i hl, List.getElem_set_self]
theorem mild_set {x : List Int} {i : Nat} {v : Int} (hi : i < x.length) (h : Mild (x.take i)) (h1 : -800 ≤ v) (h2 : v ≤ 800) : Mild ((x.set i v).take (i + 1)) := by
  rw [(set_take x i v hi).1]
  intro u hu
  rcases List.mem_append.1 hu with hu | hu
  · exact h u hu
  · rw [List.mem_singleton.1 hu]
    exact ⟨h1, h2⟩
theorem mild_smp {x : List Int} (h : Mild x) : Smp x := fun v hv => by have := h v hv; omega
theorem mild_win {x : List Int} (h : Mild x) (h2 : 2 ≤ x.length) (h32 : x.length ≤ 32) : Win x := ⟨mild_smp h, h2, h32⟩
theorem moved_win {x : List Int} {b : Int} (h : Mild x) (hb : -128 ≤ b ∧ b ≤ 127) (h2 : 2 ≤ x.length) (h32 : x.length ≤ 32) : Win (x.map (· + b)) := by
  refine ⟨fun v hv => ?_, by rw [List.length_map]; exact h2, by rw [List.length_map]; exact h32⟩
  obtain ⟨u, hu, rfl⟩ := List.mem_map.1 hv
  have := h u hu
  omega
theorem rev_win {x : List Int} (h : Win x) : Win x.reverse :=
  ⟨fun v hv => h.1 v (List.mem_reverse.1 hv), by rw [List.length_reverse]; exact h.2.1, by rw [List.length_reverse]; exact h.2.2⟩
theorem moves_j4 {x y : List Int} {g : Int} (b : Int) (hx : Mild x) (hy : Mild y) (hg : -800 ≤ g ∧ g ≤ 800) (h2 : 2 ≤ x.length) (h32 : x.length ≤ 32) (k2 : 2 ≤ y.length) (k32 : y.length ≤ 32) (hat : 0 ≤ b ∧ b ≤ 255) :
    EvP (fun k => shapesearchlaw15_EditMoves.j4 k b x y g (ed g x y) false) (fun r => r = true) := by
  refine EvP.step (fun k => by rw [shapesearchlaw15_EditMoves.j4]) ?_
  refine EvP.neg (by simp) (EvP.ite (fun _ => EvP.bind1 awake_is (EvP.ret rfl)) (fun hc => ?_))
  have e1 : wrap64 ((x.length : Int) + 1) = (x.length : Int) + 1 := w64 (by omega) (by omega)
  have e2 : wrap64 b = b := w64 (by omega) (by omega)
  have e3 : Int.tmod b ((x.length : Int) + 1) = b % ((x.length : Int) + 1) := Int.tmod_eq_emod_of_nonneg hat.1
  have m1 := Int.emod_nonneg b (show (x.length : Int) + 1 ≠ 0 by omega)
  have m2 := Int.emod_lt_of_pos b (show 0 < (x.length : Int) + 1 by omega)
  rw [e1, e2, e3]
  generalize b % ((x.length : Int) + 1) = m at *
  obtain ⟨m, rfl⟩ := Int.eq_ofNat_of_zero_le m1
  rw [Int.toNat_natCast]
  have l1 : (x.take m).length = m := by rw [List.length_take]; omega
  have l2 : (x.drop m).length = x.length - m := List.length_drop
  refine EvP.neg (by omega) (EvP.bind1 (Ev.now _) (EvP.pos (by omega) (EvP.pos (by omega) (EvP.bind1 (Ev.now _) (EvP.pos (by rw [l1]; simp; omega) (EvP.bind1 (Ev.now _) (EvP.bind1 (Ev.now _) (EvP.pos (by simp; omega) (EvP.bind1 (Ev.now _) (EvP.bind1 (Ev.now _) (EvP.pos (by simp; omega) ?_)))))))))))
  have e4 : ([] : List Int) ++ x.take m ++ [g] ++ x.drop m = x.take m ++ g :: x.drop m := by simp
  rw [e4]
  have hw : Win (x.take m ++ g :: x.drop m) := by
    refine ⟨fun v hv => ?_, by rw [List.length_append, List.length_cons, l1, l2]; omega, by rw [List.length_append, List.length_cons, l1, l2]; omega⟩
    rcases List.mem_append.1 hv with hv | hv
    · exact mild_smp hx v (List.mem_of_mem_take hv)
    · rcases List.mem_cons.1 hv with rfl | hv
      · omega
      · exact mild_smp hx v (List.mem_of_mem_drop hv)
  have hd := dist_ok hw (mild_win hy k2 k32) (g := g) (by omega) (by omega)
  rw [ed_put, List.take_append_drop] at hd
  exact EvP.bind1 hd (EvP.pos rfl (EvP.pos rfl (EvP.bind1 awake_is (EvP.ret rfl))))
theorem rev_next (y : List Int) (i : Nat) (h : i < y.length) (hn : y.length ≤ 1000) : 0 ≤ wrap64 (wrap64 ((y.length : Int) - 1) - i) ∧ wrap64 (wrap64 ((y.length : Int) - 1) - i) < (y.length : Int) ∧ y.reverse.take i ++ [rd y (wrap64 (wrap64 ((y.length : Int) - 1) - i))] = y.reverse.take (i + 1) := by
  have e : wrap64 (wrap64 ((y.length : Int) - 1) - i) = ((y.length - 1 - i : Nat) : Int) := by
    rw [w64 (n := (y.length : Int) - 1) (by omega) (by omega), w64 (by omega) (by omega)]
    omega
  have hl : y.reverse.length = y.length := List.length_reverse
  rw [e]
  refine ⟨by omega, by omega, ?_⟩
  rw [List.take_succ_eq_append_getElem (by omega), rd_nat y _ (by omega), List.getElem_reverse]
section
variable {x y : List Int} {g b at_ : Int} (hx : Mild x) (hy : Mild y) (hg : -800 ≤ g ∧ g ≤ 800) (h2 : 2 ≤ x.length) (h32 : x.length ≤ 32) (k2 : 2 ≤ y.length) (k32 : y.length ≤ 32) (hb : -128 ≤ b ∧ b ≤ 127) (hat : 0 ≤ at_ ∧ at_ ≤ 255)
include hx hy hg h2 h32 k2 k32 hb hat
theorem moves_l3 (d : Nat) : ∀ i : Nat, i + d = y.length → EvP (fun k => shapesearchlaw15_EditMoves.l3 k b at_ x y g (x.map (· + b)) (y.map (· + b)) x.reverse (y.reverse.take i) (y.length : Int) (i : Int)) (fun r => r = true) := by
  induction d with
  | zero =>
    intro i hi
    have hl : y.reverse.length = y.length := List.length_reverse
    rw [List.take_of_length_le (l := y.reverse) (by omega)]
    have wx := mild_win hx h2 h32
    have wy := mild_win hy k2 k32
    have eb : wrap64 b = b := w64 (by omega) (by omega)
    have d1 := dist_ok wx wy (g := g) (by omega) (by omega)
    have d2 := dist_ok (moved_win hx hb h2 h32) (moved_win hy hb k2 k32) (g := g + b) (by omega) (by omega)
    have d3 := dist_ok (rev_win wx) (rev_win wy) (g := g) (by omega) (by omega)
    rw [ed_shift] at d2
    rw [ed_rev] at d3
    refine EvP.step (fun k => by rw [shapesearchlaw15_EditMoves.l3]) ?_
    refine EvP.neg (by omega) ?_
    rw [eb, w64 (n := g + b) (by omega) (by omega)]
    refine EvP.bind1 d1 (EvP.bind1 d2 (EvP.bind1 d3 (EvP.pos rfl (EvP.pos rfl (EvP.pos rfl (EvP.pos rfl ?_))))))
    dsimp only
    rw [bne_self_eq_false]
    exact moves_j4 at_ hx hy hg h2 h32 k2 k32 hat
  | succ d ih =>
    intro i hi
    obtain ⟨r1, r2, r3⟩ := rev_next y i (by omega) (by omega)
    have hl : y.reverse.length = y.length := List.length_reverse
    refine EvP.step (fun k => by rw [shapesearchlaw15_EditMoves.l3]) ?_
    refine EvP.pos (by omega) (EvP.pos r1 (EvP.pos r2 (EvP.bind1 (Ev.now _) (EvP.pos (by rw [List.length_take]; simp; omega) ?_))))
    rw [r3, w_succ (by omega)]
    exact ih (i + 1) (by omega)
theorem moves_l2 (d : Nat) : ∀ i : Nat, i + d = x.length → EvP (fun k => shapesearchlaw15_EditMoves.l2 k b at_ x y g (x.map (· + b)) (y.map (· + b)) (x.reverse.take i) (x.length : Int) (i : Int)) (fun r => r = true) := by
  induction d with
  | zero =>
    intro i hi
    have hl : x.reverse.length = x.length := List.length_reverse
    rw [List.take_of_length_le (l := x.reverse) (by omega)]
    refine EvP.step (fun k => by rw [shapesearchlaw15_EditMoves.l2]) ?_
    refine EvP.neg (by omega) ?_
    have := moves_l3 hx hy hg h2 h32 k2 k32 hb hat y.length 0 (by omega)
    rw [List.take_zero] at this
    exact this
  | succ d ih =>
    intro i hi
    obtain ⟨r1, r2, r3⟩ := rev_next x i (by omega) (by omega)
    have hl : x.reverse.length = x.length := List.length_reverse
    refine EvP.step (fun k => by rw [shapesearchlaw15_EditMoves.l2]) ?_
    refine EvP.pos (by omega) (EvP.pos r1 (EvP.pos r2 (EvP.bind1 (Ev.now _) (EvP.pos (by rw [List.length_take]; simp; omega) ?_))))
    rw [r3, w_succ (by omega)]
    exact ih (i + 1) (by omega)
end
theorem moves_l1 {x : List Int} {g b at_ : Int} (hx : Mild x) (hg : -800 ≤ g ∧ g ≤ 800) (h2 : 2 ≤ x.length) (h32 : x.length ≤ 32) (hb : -128 ≤ b ∧ b ≤ 127) (hat : 0 ≤ at_ ∧ at_ ≤ 255) (n : Nat) (k2 : 2 ≤ n) (k32 : n ≤ 32) (d : Nat) :
    ∀ (i : Nat) (y : List Int), y.length = n → i + d = n → Mild (y.take i) → Smp y → EvP (fun k => shapesearchlaw15_EditMoves.l1 k b at_ x y g (x.map (· + b)) ((y.take i).map (· + b)) (n : Int) (i : Int)) (fun r => r = true) := by
  have eb : wrap64 b = b := w64 (by omega) (by omega)
  induction d with
  | zero =>
    intro i y hl hi hm hs
    rw [List.take_of_length_le (by omega)] at hm ⊢
    refine EvP.step (fun k => by rw [shapesearchlaw15_EditMoves.l1]) ?_
    refine EvP.neg (by omega) ?_
    have := moves_l2 (x := x) (y := y) hx hm hg h2 h32 (by omega) (by omega) hb hat x.length 0 (by omega)
    rw [List.take_zero] at this
    exact this
  | succ d ih =>
    intro i y hl hi hm hs
    have hlt : i < y.length := by omega
    have by_ := hs y[i] (List.getElem_mem _)
    obtain ⟨f1, f2, f3⟩ := fifths by_.1 by_.2
    refine EvP.step (fun k => by rw [shapesearchlaw15_EditMoves.l1]) ?_
    refine EvP.pos (by omega) (EvP.pos (by omega) (EvP.pos (by omega) (EvP.bind1 (Ev.now _) (EvP.bind1 (Ev.now _) (EvP.pos (by rw [List.length_map, List.length_take]; simp; omega) ?_)))))
    rw [rd_nat y i hlt, f1, Int.toNat_natCast, w_succ (by omega), eb]
    generalize Int.tdiv (y[i] * 4) 5 = v at *
    have hst := set_take y i v hlt
    rw [hst.2, w64 (n := v + b) (by omega) (by omega)]
    have := ih (i + 1) (y.set i v) (by rw [List.length_set]; exact hl) (by omega) (mild_set hlt hm f2 f3) (hs.set i (by omega) (by omega))
    rw [hst.1, List.map_append] at this
    exact this
theorem moves_l0 {y : List Int} {g b at_ : Int} (hy : Smp y) (hg : -800 ≤ g ∧ g ≤ 800) (k2 : 2 ≤ y.length) (k32 : y.length ≤ 32) (hb : -128 ≤ b ∧ b ≤ 127) (hat : 0 ≤ at_ ∧ at_ ≤ 255) (n : Nat) (h2 : 2 ≤ n) (h32 : n ≤ 32) (d : Nat) :
    ∀ (i : Nat) (x : List Int), x.length = n → i + d = n → Mild (x.take i) → Smp x → EvP (fun k => shapesearchlaw15_EditMoves.l0 k b at_ x y g ((x.take i).map (· + b)) (n : Int) (i : Int)) (fun r => r = true) := by
  have eb : wrap64 b = b := w64 (by omega) (by omega)
  induction d with
  | zero =>
    intro i x hl hi hm hs
    rw [List.take_of_length_le (by omega)] at hm ⊢
    refine EvP.step (fun k => by rw [shapesearchlaw15_EditMoves.l0]) ?_
    refine EvP.neg (by omega) ?_
    have := moves_l1 (x := x) hm hg (by omega) (by omega) hb hat y.length k2 k32 y.length 0 y rfl (by omega) (by rw [List.take_zero]; intro v hv; cases hv) hy
    rw [List.take_zero] at this
    exact this
  | succ d ih =>
    intro i x hl hi hm hs
    have hlt : i < x.length := by omega
    have bx := hs x[i] (List.getElem_mem _)
    obtain ⟨f1, f2, f3⟩ := fifths bx.1 bx.2
    refine EvP.step (fun k => by rw [shapesearchlaw15_EditMoves.l0]) ?_
    refine EvP.pos (by omega) (EvP.pos (by omega) (EvP.pos (by omega) (EvP.bind1 (Ev.now _) (EvP.bind1 (Ev.now _) (EvP.pos (by rw [List.length_map, List.length_take]; simp; omega) ?_)))))
    rw [rd_nat x i hlt, f1, Int.toNat_natCast, w_succ (by omega), eb]
    generalize Int.tdiv (x[i] * 4) 5 = v at *
    have hst := set_take x i v hlt
    rw [hst.2, w64 (n := v + b) (by omega) (by omega)]
    have := ih (i + 1) (x.set i v) (by rw [List.length_set]; exact hl) (by omega) (mild_set hlt hm f2 f3) (hs.set i (by omega) (by omega))
    rw [hst.1, List.map_append] at this
    exact this
theorem EditMoves : shapesearchlaw15_EditMoves.Pure := by
  intro l0 a1 a2 h1 h2 h3 h4 h5
  have hb := b_i8 h4
  have hat := b_u8 h5
  refine EvP.rounds ?_
  unfold shapesearchlaw15_EditMoves.f
  refine EvP.bind (keep_New l0 h3 h1) (fun s hs => EvP.bind (some_is s.1 s.2 hs) (fun p hp => ?_))
  obtain ⟨wx, wy, g1, g2, _⟩ := hp
  clear hs h1 h2 h3 h4 h5
  generalize p.1 = x at *
  generalize p.2.1 = y at *
  generalize p.2.2.1 = g at *
  obtain ⟨f1, f2, f3⟩ := fifths g1 g2
  rw [f1]
  have := moves_l0 (g := Int.tdiv (g * 4) 5) (b := a1) (at_ := a2) wy.1 ⟨f2, f3⟩ wy.2.1 wy.2.2 hb hat x.length wx.2.1 wx.2.2 x.length 0 x rfl (by omega) (by rw [List.take_zero]; intro v hv; cases hv) wx.1
  rw [List.take_zero] at this
  exact this

end Go.Proofs.Ytmmmapkobnepcaa.Pure
