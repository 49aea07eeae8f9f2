/- This file proves that the functions of layer 12 answer as the document's, for any windows of at most 200 numbers, any list and any limit. -/
import Derived.Test.YtmkjmplkokfoiaaPEuclidAnswersx9
import Derived.Test.YtmkjmplkokfoiaaBase
import Derived.Test.YtmkjmplkokfoiaaMathRat
set_option linter.unusedVariables false
namespace Go.Proofs.Ytmkjmplkokfoiaa.Pure
open Go.RowKit Go.Proofs.Ytmkjmplkokfoiaa.PEuclidAnswers Go.Proofs.YtmkjmplkokfoiaaW.PrintWords Go.Proofs.YtmkjmplkokfoiaaW.PrintLast Go.Proofs.YtmkjmplkokfoiaaW.PrintMore Go.Proofs.Ytmkjmplkokfoiaa.Base
/-! ### numbers out of a list -/
theorem keep_New (l0 : List Int) (h : ∀ x ∈ l0, (Lit.int .i64 x).wf = true) (hl : l0.length ≤ maxLen) : EvP (fun _ => shapesearchkeep_New.f l0) (fun r => Src r.1 r.2) := by
  have e : mn (l0.length : Int) 2000 = ((min l0.length 2000 : Nat) : Int) := by unfold mn; split <;> omega
  unfold shapesearchkeep_New.f
  rw [e]
  refine EvP.pos (by omega) (EvP.pos (by omega) (EvP.ret ?_))
  refine ⟨Int.le_refl _, by omega, by rw [List.length_take]; omega, fun x hx => b_i64 (h x (List.mem_of_mem_take hx))⟩
theorem keep_Raw (s : List Int) (a : Int) (h : Src s a) : EvP (fun _ => shapesearchkeep_Src_Raw.f s a) (fun r => Src s r.2 ∧ -9223372036854775808 ≤ r.1 ∧ r.1 ≤ 9223372036854775807) := by
  obtain ⟨h0, h1, h2, h3⟩ := h
  unfold shapesearchkeep_Src_Raw.f
  refine EvP.ite (fun hc => EvP.ret ⟨⟨h0, h1, h2, h3⟩, by omega, by omega⟩) (fun hc => ?_)
  have hw : wrap64 (a + 1) = a + 1 := w64 (by omega) (by omega)
  have hw2 : wrap64 (a + 1 - 1) = a := by rw [w64 (by omega) (by omega)]; omega
  rw [hw, hw2]
  have hm := h3 _ (rd_mem s a h0 (by omega))
  exact EvP.pos h0 (EvP.pos (by omega) (EvP.ret ⟨⟨by omega, by omega, h2, h3⟩, hm⟩))
theorem keep_Mod (a n : Int) (ha : -9223372036854775808 ≤ a) (ha' : a ≤ 9223372036854775807) (hn : 1 ≤ n) (hn' : n ≤ 9223372036854775807) : EvP (fun _ => shapesearchkeep_Mod.f a n) (fun t => 0 ≤ t ∧ t < n) := by
  have h1 := Int.tmod_lt_of_pos a (show 0 < n by omega)
  have h2 := Int.lt_tmod_of_pos a (show 0 < n by omega)
  unfold shapesearchkeep_Mod.f
  refine EvP.neg (by omega) (EvP.neg (by omega) (EvP.ite (fun hc => EvP.ret ?_) (fun hc => EvP.ret ?_)))
  · rw [w64 (by omega) (by omega)]
    omega
  · omega
theorem keep_N (s : List Int) (a n : Int) (h : Src s a) (hn : 1 ≤ n) (hn' : n ≤ 9223372036854775807) : EvP (fun _ => shapesearchkeep_Src_N.f s a n) (fun r => Src s r.2 ∧ 0 ≤ r.1 ∧ r.1 < n) := by
  unfold shapesearchkeep_Src_N.f
  refine EvP.bind (keep_Raw s a h) (fun x hx => EvP.bind (keep_Mod x.1 n hx.2.1 hx.2.2 hn hn') (fun t ht => EvP.ret ⟨hx.1, ht⟩))
theorem keep_Range (s : List Int) (a lo hi : Int) (h : Src s a) (hlo : -1000000000000 ≤ lo) (hlh : lo ≤ hi) (hhi : hi ≤ 1000000000000) : EvP (fun _ => shapesearchkeep_Src_Range.f s a lo hi) (fun r => Src s r.2 ∧ lo ≤ r.1 ∧ r.1 ≤ hi) := by
  have e1 : wrap64 (hi - lo) = hi - lo := w64 (by omega) (by omega)
  have e2 : wrap64 (hi - lo + 1) = hi - lo + 1 := w64 (by omega) (by omega)
  unfold shapesearchkeep_Src_Range.f
  rw [e1, e2]
  refine EvP.bind (keep_N s a (hi - lo + 1) h (by omega) (by omega)) (fun x hx => EvP.ret ⟨hx.1, ?_⟩)
  have e3 : wrap64 (lo + x.1) = lo + x.1 := w64 (by omega) (by omega)
  show lo ≤ wrap64 (lo + x.1) ∧ wrap64 (lo + x.1) ≤ hi
  rw [e3]
  omega
theorem keep_Pick (s : List Int) (a : Int) (l : List Int) (h : Src s a) (hl : 1 ≤ l.length) (hl' : l.length ≤ 1000000) : EvP (fun _ => shapesearchkeep_Src_Pick.f s a l) (fun r => Src s r.2 ∧ r.1 ∈ l) := by
  unfold shapesearchkeep_Src_Pick.f
  exact EvP.bind (keep_N s a l.length h (by omega) (by omega)) (fun x hx => EvP.pos hx.2.1 (EvP.pos hx.2.2 (EvP.ret ⟨hx.1, rd_mem l x.1 hx.2.1 hx.2.2⟩)))
theorem keep_clip (x : Int) : EvP (fun _ => shapesearchkeep_clip.f x) (fun t => -1000 ≤ t ∧ t ≤ 1000) := by
  unfold shapesearchkeep_clip.f
  refine EvP.ret ⟨le_mn (Int.le_trans (by omega) (le_mx_right _ _)) (by omega), mn_le_right _ _⟩
theorem keep_List_l0 (s : List Int) (n kind size : Int) (hs : 1 ≤ size ∧ size ≤ 1000) (hn : 0 ≤ n ∧ n ≤ 100000) (d : Nat) :
    ∀ (x : Int) (out : List Int) (a : Int), Src s a → Smp out → -1000 ≤ x → x ≤ 1000 → out.length + d = n →
      EvP (fun k => shapesearchkeep_Src_List.l0 k n kind size x out out.length s a) (fun r => Src s r.2 ∧ Smp r.1 ∧ (r.1.length : Int) = n) := by
  have es : wrap64 (-size) = -size := w64 (by omega) (by omega)
  induction d with
  | zero =>
    intro x out a h ho hx hx' hd
    refine EvP.step (fun k => by rw [shapesearchkeep_Src_List.l0]) ?_
    exact EvP.neg (by omega) (EvP.ret ⟨h, ho, by dsimp only; omega⟩)
  | succ d ih =>
    intro x out a h ho hx hx' hd
    have ew : wrap64 ((out.length : Int) + 1) = (out.length : Int) + 1 := w64 (by omega) (by omega)
    have el : ∀ y : Int, (out.length : Int) + 1 = ((out ++ [y]).length : Nat) := fun y => by simp
    have push : ∀ (x' y a' : Int), Src s a' → -1000 ≤ x' → x' ≤ 1000 → -1000 ≤ y → y ≤ 1000 → EvP (fun k => shapesearchkeep_Src_List.l0 k n kind size x' (out ++ [y]) (wrap64 ((out.length : Int) + 1)) s a') (fun r => Src s r.2 ∧ Smp r.1 ∧ (r.1.length : Int) = n) := by
      intro x' y a' ha h1 h2 h3 h4
      rw [ew, el y]
      exact ih x' (out ++ [y]) a' ha (ho.snoc h3 h4) h1 h2 (by simp; omega)
    have hL : out.length < 17592186044416 := by omega
    have j3 : ∀ b : Bool, EvP (fun k => shapesearchkeep_Src_List.j3 k n kind size x out out.length kind b s a) (fun r => Src s r.2 ∧ Smp r.1 ∧ (r.1.length : Int) = n) := by
      intro b
      refine EvP.step (fun k => by rw [shapesearchkeep_Src_List.j3]) ?_
      refine EvP.ite (fun _ => ?_) (fun _ => EvP.ite (fun _ => ?_) (fun _ => ?_))
      · rw [es]
        refine EvP.bind (keep_Range s a (-size) size h (by omega) (by omega) (by omega)) (fun q hq => ?_)
        refine EvP.bind (keep_clip _) (fun t ht => EvP.pos hL (push t t q.2 hq.1 ht.1 ht.2 ht.1 ht.2))
      · refine EvP.bind (keep_N s a 4 h (by omega) (by omega)) (fun q hq => EvP.ite (fun _ => ?_) (fun _ => EvP.pos hL (push x x q.2 hq.1 hx hx' hx hx')))
        rw [es]
        exact EvP.bind (keep_Range s q.2 (-size) size hq.1 (by omega) (by omega) (by omega)) (fun p hp => EvP.pos hL (push p.1 p.1 p.2 hp.1 (by omega) (by omega) (by omega) (by omega)))
      · refine EvP.bind (keep_Pick s a [-1000, 1000, 1000, 0] h (by simp) (by simp)) (fun q hq => EvP.pos hL (push x q.1 q.2 hq.1 hx hx' ?_ ?_)) <;>
        · have := hq.2
          simp at this
          omega
    have j2 : ∀ b : Bool, EvP (fun k => shapesearchkeep_Src_List.j2 k n kind size x out out.length kind b s a) (fun r => Src s r.2 ∧ Smp r.1 ∧ (r.1.length : Int) = n) := by
      intro b
      refine EvP.step (fun k => by rw [shapesearchkeep_Src_List.j2]) ?_
      refine EvP.ite (fun _ => ?_) (fun _ => EvP.ite (fun _ => j3 _) (fun _ => j3 _))
      rw [es]
      exact EvP.bind (keep_Range s a (-size) size h (by omega) (by omega) (by omega)) (fun q hq => EvP.pos hL (push x q.1 q.2 hq.1 hx hx' (by omega) (by omega)))
    refine EvP.step (fun k => by rw [shapesearchkeep_Src_List.l0]) ?_
    exact EvP.pos (by omega) (EvP.ite (fun _ => j2 _) (fun _ => j2 _))
theorem keep_List (s : List Int) (a n : Int) (h : Src s a) (hn : 0 ≤ n) (hn' : n ≤ 100000) : EvP (fun k => shapesearchkeep_Src_List.f k s a n) (fun r => Src s r.2 ∧ Smp r.1 ∧ (r.1.length : Int) = n) := by
  unfold shapesearchkeep_Src_List.f
  refine EvP.bind (keep_N s a 6 h (by omega) (by omega)) (fun p hp => EvP.bind (keep_Pick s p.2 [1, 3, 10, 100, 1000] hp.1 (by simp) (by simp)) (fun q hq => ?_))
  have hq2 : 1 ≤ q.1 ∧ q.1 ≤ 1000 := by
    have := hq.2
    simp at this
    omega
  have j0 : ∀ x a', Src s a' → -1000 ≤ x → x ≤ 1000 → EvP (fun k => shapesearchkeep_Src_List.j0 k n p.1 q.1 x s a') (fun r => Src s r.2 ∧ Smp r.1 ∧ (r.1.length : Int) = n) := by
    intro x a' ha h1 h2
    refine EvP.step (fun k => by rw [shapesearchkeep_Src_List.j0]) ?_
    exact keep_List_l0 s n p.1 q.1 hq2 ⟨hn, hn'⟩ n.toNat x [] a' ha Smp.nil h1 h2 (by simp; omega)
  refine EvP.bind (keep_N s q.2 3 hq.1 (by omega) (by omega)) (fun r hr => EvP.ite (fun _ => ?_) (fun _ => j0 0 r.2 hr.1 (by omega) (by omega)))
  exact EvP.bind (keep_Range s r.2 (-1000) 1000 hr.1 (by omega) (by omega) (by omega)) (fun v hv => j0 v.1 v.2 hv.1 (by omega) (by omega))
theorem keep_Near_l0 (s x : List Int) (kind by_ q : Int) (hx : Smp x) (hn : 1 ≤ x.length) (hn' : x.length ≤ 100000) (d : Nat) :
    ∀ (out : List Int) (i : Int) (a : Int), Src s a → Smp out → out.length = x.length → 0 ≤ i → i + d = x.length →
      EvP (fun k => shapesearchkeep_Src_Near.l0 k x kind by_ q out (x.length : Int) i s a) (fun r => Src s r.2 ∧ Smp r.1 ∧ r.1.length = x.length) := by
  induction d with
  | zero =>
    intro out i a h ho hl hi hd
    refine EvP.step (fun k => by rw [shapesearchkeep_Src_Near.l0]) ?_
    exact EvP.neg (by omega) (EvP.ret ⟨h, ho, hl⟩)
  | succ d ih =>
    intro out i a h ho hl hi hd
    have ew : wrap64 (i + 1) = i + 1 := w64 (by omega) (by omega)
    have next : ∀ (out' : List Int) (a' : Int), Src s a' → Smp out' → out'.length = x.length → EvP (fun k => shapesearchkeep_Src_Near.l0 k x kind by_ q out' (x.length : Int) (wrap64 (i + 1)) s a') (fun r => Src s r.2 ∧ Smp r.1 ∧ r.1.length = x.length) := by
      intro out' a' h1 h2 h3
      rw [ew]
      exact ih out' (i + 1) a' h1 h2 h3 (by omega) (by omega)
    have put : ∀ (y a' : Int), Src s a' → -1000 ≤ y → y ≤ 1000 → EvP (fun k => shapesearchkeep_Src_Near.l0 k x kind by_ q (out.set (i : Int).toNat y) (x.length : Int) (wrap64 (i + 1)) s a') (fun r => Src s r.2 ∧ Smp r.1 ∧ r.1.length = x.length) :=
      fun y a' h1 h2 h3 => next _ a' h1 (ho.set _ h2 h3) (by simp [hl])
    have hlt : i < (out.length : Int) := by omega
    refine EvP.step (fun k => by rw [shapesearchkeep_Src_Near.l0]) ?_
    refine EvP.pos (by omega) ?_
    refine EvP.ite (fun _ => EvP.pos hi (EvP.pos hlt ?_)) (fun _ => ?_)
    · exact EvP.bind (keep_Range s a (-2) 2 h (by omega) (by omega) (by omega)) (fun p hp => EvP.bind (keep_clip _) (fun t ht => put t p.2 hp.1 ht.1 ht.2))
    refine EvP.ite (fun _ => EvP.pos hi (EvP.pos hlt ?_)) (fun _ => ?_)
    · exact EvP.bind (keep_clip _) (fun t ht => put t a h ht.1 ht.2)
    refine EvP.ite (fun _ => EvP.pos hi (EvP.pos hlt ?_)) (fun _ => ?_)
    · exact EvP.bind (keep_clip _) (fun t ht => put t a h ht.1 ht.2)
    refine EvP.ite (fun _ => ?_) (fun _ => ?_)
    · have e1 : wrap64 ((x.length : Int) - 1) = (x.length : Int) - 1 := w64 (by omega) (by omega)
      have e2 : wrap64 ((x.length : Int) - 1 - i) = (x.length : Int) - 1 - i := w64 (by omega) (by omega)
      rw [e1, e2]
      have hr := hx.at ((x.length : Int) - 1 - i) (by omega) (by omega)
      exact EvP.pos (by omega) (EvP.pos (by omega) (EvP.pos hi (EvP.pos hlt (put _ a h hr.1 hr.2))))
    refine EvP.ite (fun _ => ?_) (fun _ => ?_)
    · refine EvP.bind (keep_Range s a (-1) 1 h (by omega) (by omega) (by omega)) (fun p hp => ?_)
      refine EvP.bind (keep_Mod _ _ (w64_lo _) (w64_hi _) (by omega) (by omega)) (fun t ht => ?_)
      have hr := hx.at t ht.1 ht.2
      exact EvP.pos ht.1 (EvP.pos ht.2 (EvP.pos hi (EvP.pos hlt (put _ p.2 hp.1 hr.1 hr.2))))
    refine EvP.ite (fun _ => EvP.pos hi (EvP.pos hlt ?_)) (fun _ => next out a h ho hl)
    exact EvP.bind (keep_clip _) (fun t ht => put t a h ht.1 ht.2)
theorem keep_Near (s : List Int) (a : Int) (x : List Int) (h : Src s a) (hx : Smp x) (hn : 1 ≤ x.length) (hn' : x.length ≤ 100000) : EvP (fun k => shapesearchkeep_Src_Near.f k s a x) (fun r => Src s r.2 ∧ Smp r.1 ∧ r.1.length = x.length) := by
  unfold shapesearchkeep_Src_Near.f
  refine EvP.bind (keep_N s a 7 h (by omega) (by omega)) (fun p hp => EvP.bind (keep_Range s p.2 (-20) 20 hp.1 (by omega) (by omega) (by omega)) (fun q hq => EvP.bind (keep_Range s q.2 1 3 hq.1 (by omega) (by omega) (by omega)) (fun r hr => ?_)))
  refine EvP.bind (Ev.evp (Ev.now _)) (fun y hy => ?_)
  subst hy
  refine EvP.pos (by simp; omega) (EvP.bind (Ev.evp (Ev.now _)) (fun z hz => ?_))
  have hz' : z = x := hz
  rw [hz']
  exact keep_Near_l0 s x p.1 q.1 r.1 hx hn hn' x.length x 0 r.2 hr.1 hx rfl (by omega) (by omega)
theorem keep_Length (s : List Int) (a : Int) (h : Src s a) : EvP (fun _ => shapesearchkeep_Src_Length.f s a) (fun r => Src s r.2 ∧ 2 ≤ r.1 ∧ r.1 ≤ 32) := by
  unfold shapesearchkeep_Src_Length.f
  refine EvP.bind (keep_N s a 8 h (by omega) (by omega)) (fun p hp => EvP.ite (fun _ => ?_) (fun _ => ?_))
  · exact EvP.bind (keep_Range s p.2 13 32 hp.1 (by omega) (by omega) (by omega)) (fun q hq => EvP.ret ⟨hq.1, by have := hq.2; omega⟩)
  · exact EvP.bind (keep_Range s p.2 2 12 hp.1 (by omega) (by omega) (by omega)) (fun q hq => EvP.ret ⟨hq.1, by have := hq.2; omega⟩)
theorem keep_Pair (s : List Int) (a : Int) (h : Src s a) : EvP (fun k => shapesearchkeep_Src_Pair.f k s a) (fun r => Src s r.2.2 ∧ Smp r.1 ∧ Smp r.2.1 ∧ 2 ≤ r.1.length ∧ r.1.length ≤ 32 ∧ r.2.1.length = r.1.length) := by
  unfold shapesearchkeep_Src_Pair.f
  refine EvP.bind (keep_Length s a h) (fun n hn => EvP.bind (keep_List s n.2 n.1 hn.1 (by omega) (by omega)) (fun x hx => EvP.bind (keep_N s x.2 3 hx.1 (by omega) (by omega)) (fun p hp => ?_)))
  obtain ⟨hx0, hx1, hx2⟩ := hx
  refine EvP.ite (fun _ => ?_) (fun _ => ?_)
  · refine EvP.bind (keep_List s p.2 (x.1.length : Int) hp.1 (by omega) (by omega)) (fun y hy => EvP.ret ⟨hy.1, hx1, hy.2.1, by dsimp only; omega, by dsimp only; omega, by have := hy.2.2; dsimp only; omega⟩)
  · exact EvP.bind (keep_Near s p.2 x.1 hp.1 hx1 (by omega) (by omega)) (fun y hy => EvP.ret ⟨hy.1, hx1, hy.2.1, by dsimp only; omega, by dsimp only; omega, hy.2.2⟩)
theorem keep_Bent_l0 (s : List Int) (d : Nat) : ∀ (out : List Int) (a : Int), Src s a → 33 ≤ out.length + d → out.length ≤ 100000 → EvP (fun k => shapesearchkeep_Src_Bent.l0 k out s a) (fun r => Src s r.2 ∧ r.1.length ≤ 1000000) := by
  induction d with
  | zero =>
    intro out a h hd hl
    exact EvP.step (fun k => by rw [shapesearchkeep_Src_Bent.l0]) (EvP.neg (by omega) (EvP.ret ⟨h, by show out.length ≤ 1000000; omega⟩))
  | succ d ih =>
    intro out a h hd hl
    refine EvP.step (fun k => by rw [shapesearchkeep_Src_Bent.l0]) (EvP.ite (fun hc => ?_) (fun _ => EvP.ret ⟨h, by show out.length ≤ 1000000; omega⟩))
    refine EvP.bind (keep_N s a 9 h (by omega) (by omega)) (fun r hr => EvP.pos (by omega) ?_)
    exact ih _ _ hr.1 (by rw [List.length_append]; simp only [List.length_cons, List.length_nil]; omega) (by rw [List.length_append]; simp only [List.length_cons, List.length_nil]; omega)
theorem keep_Bent (s : List Int) (a : Int) (l : List Int) (h : Src s a) (hl : l.length ≤ 100000) : EvP (fun k => shapesearchkeep_Src_Bent.f k s a l) (fun r => Src s r.2 ∧ r.1.length ≤ 1000000) := by
  unfold shapesearchkeep_Src_Bent.f
  refine EvP.bind1 (Ev.now _) (EvP.pos (by simp only [List.length_nil]; omega) (EvP.bind1 (Ev.now _) ?_))
  rw [List.nil_append]
  refine EvP.bind (keep_N s a 4 h (by omega) (by omega)) (fun r hr => ?_)
  refine EvP.ite (fun _ => ?_) (fun _ => EvP.ite (fun _ => ?_) (fun _ => ?_))
  · refine EvP.bind (keep_N s _ 2 hr.1 (by omega) (by omega)) (fun t ht => ?_)
    have hm : 0 ≤ mn (l.length : Int) t.1 ∧ mn (l.length : Int) t.1 ≤ (l.length : Int) := by
      have := ht.2
      unfold mn
      split <;> omega
    exact EvP.pos hm.1 (EvP.pos hm.2 (EvP.ret ⟨ht.1, by show (l.take _).length ≤ 1000000; rw [List.length_take]; omega⟩))
  · exact keep_Bent_l0 s 33 l _ hr.1 (by omega) hl
  · refine EvP.ite (fun hp => ?_) (fun _ => EvP.ret ⟨hr.1, by show l.length ≤ 1000000; omega⟩)
    refine EvP.bind (keep_N s _ (l.length : Int) hr.1 (by omega) (by omega)) (fun t ht => ?_)
    refine EvP.bind (keep_Pick s _ _ ht.1 (by decide) (by decide)) (fun u hu => ?_)
    exact EvP.pos ht.2.1 (EvP.pos ht.2.2 (EvP.ret ⟨hu.1, by show (l.set _ _).length ≤ 1000000; rw [List.length_set]; omega⟩))
theorem keep_Ints_l0 (x y : List Int) (hl : x.length = y.length) (hn : x.length ≤ 1000000000) (d : Nat) : ∀ i : Nat, i + d = x.length → Ev (fun k => shapesearchkeep_Ints.l0 k x y (x.length : Int) (i : Int)) (decide (x.drop i = y.drop i)) := by
  induction d with
  | zero =>
    intro i hi
    refine Ev.step (fun k => by rw [shapesearchkeep_Ints.l0]) (Ev.neg (by omega) ?_)
    rw [List.drop_eq_nil_of_le (by omega), List.drop_eq_nil_of_le (by omega)]
    exact Ev.now _
  | succ d ih =>
    intro i hi
    have hlt : i < x.length := by omega
    have hlt' : i < y.length := by omega
    refine Ev.step (fun k => by rw [shapesearchkeep_Ints.l0]) (Ev.pos (by omega) (Ev.pos (by omega) (Ev.pos (by omega) (Ev.pos (by omega) ?_))))
    have e : wrap64 ((i : Int) + 1) = ((i + 1 : Nat) : Int) := by rw [w64 (by omega) (by omega)]; omega
    rw [rd_nat x i hlt, rd_nat y i hlt', List.drop_eq_getElem_cons hlt, List.drop_eq_getElem_cons hlt', e]
    by_cases h : x[i] = y[i]
    · refine Ev.pos h ?_
      have : decide (x[i] :: x.drop (i + 1) = y[i] :: y.drop (i + 1)) = decide (x.drop (i + 1) = y.drop (i + 1)) := by rw [h, decide_eq_decide, List.cons.injEq]; exact ⟨fun e => e.2, fun e => ⟨rfl, e⟩⟩
      rw [this]
      exact ih (i + 1) (by omega)
    · rw [decide_eq_false (fun e' => h (List.cons.inj e').1)]
      exact Ev.neg h (Ev.now _)
theorem keep_Ints_is (x y : List Int) (hn : x.length ≤ 1000000000) : Ev (fun k => shapesearchkeep_Ints.f k x y) (decide (x = y)) := by
  unfold shapesearchkeep_Ints.f
  by_cases h : x.length = y.length
  · have := keep_Ints_l0 x y h hn x.length 0 (by omega)
    simp only [List.drop_zero] at this
    exact Ev.pos (by omega) this
  · rw [decide_eq_false (fun e => h (by rw [e]))]
    exact Ev.neg (by omega) (Ev.now _)
/-! ### windows, and their distances -/
def lenb (x : List Int) : Bool := decide (2 ≤ x.length ∧ x.length ≤ 32)
def smpb (x : List Int) : Bool := x.all fun v => decide (-1000 ≤ v ∧ v ≤ 1000)
theorem smpb_iff (x : List Int) : smpb x = true ↔ Smp x := by
  unfold smpb Smp
  simp [List.all_eq_true]
theorem euclid_length_is (x : List Int) : euclid_length.f x = some (lenb x) := by
  unfold euclid_length.f lenb
  split
  · rename_i h
    congr 1
    rw [Bool.eq_iff_iff]
    simp
    omega
  · rename_i h
    congr 1
    symm
    simp
    omega
theorem euclid_samples_l0 (x : List Int) (hn : x.length ≤ 1000000000) (d : Nat) : ∀ i : Nat, i + d = x.length → Ev (fun k => euclid_samples.l0 k x (x.length : Int) (i : Int)) (smpb (x.drop i)) := by
  induction d with
  | zero =>
    intro i hi
    refine Ev.step (fun k => by rw [euclid_samples.l0]) (Ev.neg (by omega) ?_)
    rw [List.drop_eq_nil_of_le (by omega)]
    exact Ev.now _
  | succ d ih =>
    intro i hi
    have hlt : i < x.length := by omega
    refine Ev.step (fun k => by rw [euclid_samples.l0]) (Ev.pos (by omega) (Ev.pos (by omega) (Ev.pos (by omega) ?_)))
    have e : wrap64 ((i : Int) + 1) = ((i + 1 : Nat) : Int) := by rw [w64 (by omega) (by omega)]; omega
    rw [rd_nat x i hlt, List.drop_eq_getElem_cons hlt, e]
    have hc : smpb (x[i] :: x.drop (i + 1)) = (decide (-1000 ≤ x[i] ∧ x[i] ≤ 1000) && smpb (x.drop (i + 1))) := by unfold smpb; rw [List.all_cons]
    rw [hc]
    by_cases h1 : x[i] < -1000
    · rw [decide_eq_false (by omega)]
      exact Ev.pos h1 (Ev.now _)
    · refine Ev.neg h1 ?_
      by_cases h2 : x[i] > 1000
      · rw [decide_eq_false (by omega)]
        exact Ev.pos h2 (Ev.now _)
      · refine Ev.neg h2 ?_
        rw [decide_eq_true (by omega), Bool.true_and]
        exact ih (i + 1) (by omega)
theorem euclid_samples_is (x : List Int) (hn : x.length ≤ 1000000000) : Ev (fun k => euclid_samples.f k x) (smpb x) := by
  have := euclid_samples_l0 x hn x.length 0 (by omega)
  exact this
/-- The first error of two windows of one length. -/
def chk (x y : List Int) : Int := if lenb x = true ∧ lenb y = true then (if smpb x = true ∧ smpb y = true then (if x.length = y.length then 0 else 8) else 12) else 8
theorem euclid_check_is (x y : List Int) (hx : x.length ≤ 1000000000) (hy : y.length ≤ 1000000000) : Ev (fun k => euclid_check.f k x y) (chk x y) := by
  unfold chk
  have j1 : ∀ b : Bool, Ev (fun k => euclid_check.j1 k x y b) (if b = true then 12 else if x.length = y.length then 0 else 8) := by
    intro b
    refine Ev.step (fun k => by rw [euclid_check.j1]) ?_
    cases b with
    | true => exact Ev.pos rfl (Ev.now _)
    | false =>
      refine Ev.neg (by simp) ?_
      by_cases h : x.length = y.length
      · have e : (if false = true then (12 : Int) else if x.length = y.length then 0 else 8) = 0 := by simp [h]
        rw [e]
        exact Ev.pos (by omega) (Ev.now _)
      · have e : (if false = true then (12 : Int) else if x.length = y.length then 0 else 8) = 8 := by simp [h]
        rw [e]
        exact Ev.neg (by omega) (Ev.now _)
  have j0 : ∀ b : Bool, Ev (fun k => euclid_check.j0 k x y b) (if b = true then 8 else if smpb x = true ∧ smpb y = true then (if x.length = y.length then 0 else 8) else 12) := by
    intro b
    refine Ev.step (fun k => by rw [euclid_check.j0]) ?_
    cases b with
    | true => exact Ev.pos rfl (Ev.now _)
    | false =>
      refine Ev.neg (by simp) (Ev.bind (euclid_samples_is x hx) ?_)
      rw [if_neg (by simp)]
      cases hsx : smpb x with
      | true =>
        refine Ev.pos rfl (Ev.bind (euclid_samples_is y hy) ?_)
        have := j1 (!smpb y)
        cases hsy : smpb y <;> simpa [hsy] using this
      | false =>
        refine Ev.neg (by simp) ?_
        simpa using j1 true
  unfold euclid_check.f
  rw [euclid_length_is x, euclid_length_is y]
  refine Ev.bind (Ev.now _) ?_
  cases hlx : lenb x with
  | true =>
    refine Ev.pos rfl (Ev.bind (Ev.now _) ?_)
    have := j0 (!lenb y)
    cases hly : lenb y <;> simpa [hly] using this
  | false =>
    refine Ev.neg (by simp) ?_
    simpa using j0 true
theorem euclid_square_l0 (x y : List Int) (hx : Smp x) (hy : Smp y) (hl : x.length = y.length) (hn : x.length ≤ 100000) (d : Nat) :
    ∀ (i : Nat) (s : Int), i + d = x.length → 0 ≤ s → s ≤ 4000000 * i → Ev (fun k => euclid_square.l0 k y s x (x.length : Int) (i : Int)) (s + sqd (x.drop i) (y.drop i)) := by
  induction d with
  | zero =>
    intro i s hi h0 h1
    refine Ev.step (fun k => by rw [euclid_square.l0]) (Ev.neg (by omega) ?_)
    rw [List.drop_eq_nil_of_le (by omega)]
    simp only [sqd, Int.add_zero]
    exact Ev.now _
  | succ d ih =>
    intro i s hi h0 h1
    have hlt : i < x.length := by omega
    have hlt' : i < y.length := by omega
    have bx := hx x[i] (List.getElem_mem _)
    have by_ := hy y[i] (List.getElem_mem _)
    refine Ev.step (fun k => by rw [euclid_square.l0]) (Ev.pos (by omega) (Ev.pos (by omega) (Ev.pos (by omega) (Ev.pos (by omega) ?_))))
    have e : wrap64 ((i : Int) + 1) = ((i + 1 : Nat) : Int) := by rw [w64 (by omega) (by omega)]; omega
    have b1 := sqnn (x[i] - y[i])
    have b2 := abs_sq (a := x[i] - y[i]) (m := 2000) (by omega) (by omega)
    rw [rd_nat x i hlt, rd_nat y i hlt', List.drop_eq_getElem_cons hlt, List.drop_eq_getElem_cons hlt', e]
    have e1 : wrap64 (x[i] - y[i]) = x[i] - y[i] := w64 (by omega) (by omega)
    rw [e1]
    have e2 : wrap64 ((x[i] - y[i]) * (x[i] - y[i])) = (x[i] - y[i]) * (x[i] - y[i]) := w64 (by omega) (by omega)
    rw [e2]
    have e3 : wrap64 (s + (x[i] - y[i]) * (x[i] - y[i])) = s + (x[i] - y[i]) * (x[i] - y[i]) := w64 (by omega) (by omega)
    rw [e3]
    simp only [sqd]
    rw [← Int.add_assoc]
    exact ih (i + 1) _ (by omega) (by omega) (by omega)
theorem euclid_square_is (x y : List Int) (hx : Smp x) (hy : Smp y) (hl : x.length = y.length) (hn : x.length ≤ 100000) : Ev (fun k => euclid_square.f k x y) (sqd x y) := by
  have := euclid_square_l0 x y hx hy hl hn x.length 0 0 (by omega) (by omega) (by omega)
  simp only [List.drop_zero, Int.zero_add] at this
  exact this
theorem chk_ok {x y : List Int} (hx : Smp x) (hy : Smp y) (h2 : 2 ≤ x.length) (h32 : x.length ≤ 32) (hl : x.length = y.length) : chk x y = 0 := by
  unfold chk lenb
  rw [if_pos ⟨decide_eq_true ⟨h2, h32⟩, decide_eq_true (by omega)⟩, if_pos ⟨(smpb_iff x).2 hx, (smpb_iff y).2 hy⟩, if_pos hl]
theorem chk_zero {x y : List Int} (h : chk x y = 0) : Smp x ∧ Smp y ∧ 2 ≤ x.length ∧ x.length ≤ 32 ∧ x.length = y.length := by
  unfold chk at h
  split at h
  · rename_i h1
    split at h
    · rename_i h2
      split at h
      · rename_i h3
        have := of_decide_eq_true h1.1
        exact ⟨(smpb_iff x).1 h2.1, (smpb_iff y).1 h2.2, this.1, this.2, h3⟩
      · omega
    · omega
  · omega
theorem euclid_Distance_is (x y : List Int) (hx : x.length ≤ 1000000000) (hy : y.length ≤ 1000000000) : Ev (fun k => euclid_Distance.f k x y) (if chk x y = 0 then (sqd x y, 0) else (0, chk x y)) := by
  unfold euclid_Distance.f
  refine Ev.bind (euclid_check_is x y hx hy) ?_
  by_cases h : chk x y = 0
  · rw [if_pos h]
    obtain ⟨h1, h2, h3, h4, h5⟩ := chk_zero h
    exact Ev.pos h (Ev.bind (euclid_square_is x y h1 h2 h5 (by omega)) (Ev.now _))
  · rw [if_neg h]
    exact Ev.neg h (Ev.now _)
theorem euclid_Distance_ok {x y : List Int} (hx : Smp x) (hy : Smp y) (h2 : 2 ≤ x.length) (h32 : x.length ≤ 32) (hl : x.length = y.length) : Ev (fun k => euclid_Distance.f k x y) (sqd x y, 0) := by
  have := euclid_Distance_is x y (by omega) (by omega)
  rwa [if_pos (chk_ok hx hy h2 h32 hl)] at this
theorem sqd_big {x y : List Int} (hx : Smp x) (hy : Smp y) (h32 : x.length ≤ 32) : sqd x y ≤ 128000000 := by
  have := sqd_le 1000 x y hx hy
  omega
/-! ### ratios -/
theorem ratio_divisor_l0 (b : Nat) : ∀ a : Nat, Ev (fun k => ratio_divisor.l0 k (a : Int) (b : Int)) (Nat.gcd a b : Int) := by
  induction b using Nat.strongRecOn with
  | _ b ih =>
    intro a
    refine Ev.step (fun k => by rw [ratio_divisor.l0]) ?_
    by_cases h : b = 0
    · subst h
      rw [Nat.gcd_zero_right]
      exact Ev.pos rfl (Ev.now _)
    · refine Ev.neg (by omega) ?_
      have e1 : Int.tmod (a : Int) (b : Int) = ((a % b : Nat) : Int) := by rw [Int.tmod_eq_emod_of_nonneg (by omega)]; rfl
      have e2 : Nat.gcd a b = Nat.gcd b (a % b) := by rw [Nat.gcd_comm a b, Nat.gcd_rec b a, Nat.gcd_comm]
      rw [e1, e2]
      exact ih (a % b) (Nat.mod_lt _ (by omega)) b
theorem ratio_divisor_is (a b : Int) (ha : 0 ≤ a) (hb : 0 ≤ b) : Ev (fun k => ratio_divisor.f k a b) (gcdz a b) := by
  obtain ⟨m, rfl⟩ := Int.eq_ofNat_of_zero_le ha
  obtain ⟨n, rfl⟩ := Int.eq_ofNat_of_zero_le hb
  have := ratio_divisor_l0 n m
  unfold gcdz
  rw [Int.toNat_natCast, Int.toNat_natCast]
  exact this
theorem ratio_within_is (p q : Int) : ratio_within.f p q = some (decide (0 ≤ p ∧ p ≤ 2305843009213693952 ∧ 1 ≤ q ∧ q ≤ 1152921504606846976)) := by
  unfold ratio_within.f
  by_cases h1 : p ≥ 0
  · rw [if_pos h1]
    by_cases h2 : p ≤ 2305843009213693952
    · rw [if_pos h2]
      by_cases h3 : q ≥ 1
      · rw [if_pos h3]
        congr 1
        rw [decide_eq_decide]
        omega
      · rw [if_neg h3, decide_eq_false (by omega)]
    · rw [if_neg h2, decide_eq_false (by omega)]
  · rw [if_neg h1, decide_eq_false (by omega)]
theorem ratio_Make_is (n d : Int) (hn : -9223372036854775808 ≤ n) (hn' : n ≤ 9223372036854775807) (hd : -9223372036854775808 ≤ d) (hd' : d ≤ 9223372036854775807) : Ev (fun k => ratio_Make.f k n d) (mkr n d) := by
  have j0 : ∀ b : Bool, (b = true ↔ n < 0 ∨ d < 1) → Ev (fun k => ratio_Make.j0 k n d b) (mkr n d) := by
    intro b hb
    refine Ev.step (fun k => by rw [ratio_Make.j0]) ?_
    unfold mkr
    cases b with
    | true =>
      rw [if_pos (hb.1 rfl)]
      exact Ev.pos rfl (Ev.now _)
    | false =>
      have hc : ¬ (n < 0 ∨ d < 1) := fun h => by have := hb.2 h; cases this
      rw [if_neg hc]
      have hg := gcdz_pos (n := n) (d := d) (by omega)
      refine Ev.neg (by simp) (Ev.bind (ratio_divisor_is n d (by omega) (by omega)) (Ev.neg (by omega) ?_))
      have b1 := Int.ediv_le_self (gcdz n d) (show 0 ≤ n by omega)
      have b2 := Int.ediv_le_self (gcdz n d) (show 0 ≤ d by omega)
      have b3 := Int.ediv_nonneg (show 0 ≤ n by omega) (show 0 ≤ gcdz n d by omega)
      have b4 := Int.ediv_nonneg (show 0 ≤ d by omega) (show 0 ≤ gcdz n d by omega)
      have e1 : wrap64 (Int.tdiv n (gcdz n d)) = n / gcdz n d := by rw [Int.tdiv_eq_ediv_of_nonneg (by omega), w64 (by omega) (by omega)]
      have e2 : wrap64 (Int.tdiv d (gcdz n d)) = d / gcdz n d := by rw [Int.tdiv_eq_ediv_of_nonneg (by omega), w64 (by omega) (by omega)]
      have b5 : 1 ≤ d / gcdz n d := by
        have hdv : gcdz n d ∣ d := by
          unfold gcdz
          have := Int.natCast_dvd_natCast.2 (Nat.gcd_dvd_right n.toNat d.toNat)
          rwa [Int.toNat_of_nonneg (show 0 ≤ d by omega)] at this
        have := Int.ediv_mul_cancel hdv
        by_cases h0 : d / gcdz n d = 0
        · rw [h0] at this
          omega
        · omega
      rw [e1, e2, ratio_within_is]
      refine Ev.bind (Ev.now _) ?_
      by_cases hw : n / gcdz n d ≤ 2305843009213693952 ∧ d / gcdz n d ≤ 1152921504606846976
      · rw [if_pos hw]
        exact Ev.pos (decide_eq_true ⟨b3, hw.1, b5, hw.2⟩) (Ev.now _)
      · rw [if_neg hw]
        exact Ev.neg (fun h => hw ⟨(of_decide_eq_true h).2.1, (of_decide_eq_true h).2.2.2⟩) (Ev.now _)
  unfold ratio_Make.f
  by_cases h : n < 0
  · exact Ev.pos h (j0 true ⟨fun _ => .inl h, fun _ => rfl⟩)
  · refine Ev.neg h (j0 _ ⟨fun hc => .inr (of_decide_eq_true hc), fun hc => decide_eq_true (by omega)⟩)
theorem euclid_Shifted_l0 (x y : List Int) (hx : Smp x) (hy : Smp y) (hl : x.length = y.length) (hn : x.length ≤ 32) (d : Nat) :
    ∀ (i : Nat) (s : Int), i + d = x.length → -2000 * i ≤ s → s ≤ 2000 * i → Ev (fun k => euclid_Shifted.l0 k x y s (x.length : Int) x (x.length : Int) (i : Int)) (shn x y (s + sdif (x.drop i) (y.drop i))) := by
  induction d with
  | zero =>
    intro i s hi h0 h1
    refine Ev.step (fun k => by rw [euclid_Shifted.l0]) (Ev.neg (by omega) ?_)
    rw [List.drop_eq_nil_of_le (by omega)]
    simp only [sdif, Int.add_zero]
    refine Ev.bind (euclid_square_is x y hx hy hl (by omega)) ?_
    have b0 := sqd_nonneg x y
    have b1 := sqd_big hx hy hn
    have b2 := mul_le4 (show (0 : Int) ≤ x.length by omega) (show (x.length : Int) ≤ 32 by omega) b0 b1
    have b3 := Int.mul_nonneg (show (0 : Int) ≤ x.length by omega) b0
    have b4 := abs_sq (a := s) (m := 64000) (by omega) (by omega)
    have b5 := sqnn s
    have e1 : wrap64 ((x.length : Int) * sqd x y) = (x.length : Int) * sqd x y := w64 (by omega) (by omega)
    have e2 : wrap64 (s * s) = s * s := w64 (by omega) (by omega)
    have e3 : wrap64 ((x.length : Int) * sqd x y - s * s) = (x.length : Int) * sqd x y - s * s := w64 (by omega) (by omega)
    rw [e1, e2, e3]
    exact Ev.bind (ratio_Make_is _ _ (by omega) (by omega) (by omega) (by omega)) (Ev.now _)
  | succ d ih =>
    intro i s hi h0 h1
    have hlt : i < x.length := by omega
    have hlt' : i < y.length := by omega
    have bx := hx x[i] (List.getElem_mem _)
    have by_ := hy y[i] (List.getElem_mem _)
    refine Ev.step (fun k => by rw [euclid_Shifted.l0]) (Ev.pos (by omega) (Ev.pos (by omega) (Ev.pos (by omega) (Ev.pos (by omega) ?_))))
    have e : wrap64 ((i : Int) + 1) = ((i + 1 : Nat) : Int) := by rw [w64 (by omega) (by omega)]; omega
    rw [rd_nat x i hlt, rd_nat y i hlt', List.drop_eq_getElem_cons hlt, List.drop_eq_getElem_cons hlt', e]
    have e1 : wrap64 (x[i] - y[i]) = x[i] - y[i] := w64 (by omega) (by omega)
    rw [e1]
    have e3 : wrap64 (s + (x[i] - y[i])) = s + (x[i] - y[i]) := w64 (by omega) (by omega)
    rw [e3]
    simp only [sdif]
    rw [← Int.add_assoc]
    exact ih (i + 1) _ (by omega) (by omega) (by omega)
theorem euclid_Shifted_is (x y : List Int) (hx : x.length ≤ 1000000000) (hy : y.length ≤ 1000000000) : Ev (fun k => euclid_Shifted.f k x y) (if chk x y = 0 then shn x y (sdif x y) else (0, 0, chk x y)) := by
  unfold euclid_Shifted.f
  refine Ev.bind (euclid_check_is x y hx hy) ?_
  by_cases h : chk x y = 0
  · rw [if_pos h]
    obtain ⟨h1, h2, h3, h4, h5⟩ := chk_zero h
    have := euclid_Shifted_l0 x y h1 h2 h5 h4 x.length 0 0 (by omega) (by omega) (by omega)
    simp only [List.drop_zero, Int.zero_add] at this
    exact Ev.pos h this
  · rw [if_neg h]
    exact Ev.neg h (Ev.now _)
theorem euclid_Shifted_ok {x y : List Int} (hx : Smp x) (hy : Smp y) (h2 : 2 ≤ x.length) (h32 : x.length ≤ 32) (hl : x.length = y.length) : Ev (fun k => euclid_Shifted.f k x y) (shn x y (sdif x y)) := by
  have := euclid_Shifted_is x y (by omega) (by omega)
  rwa [if_pos (chk_ok hx hy h2 h32 hl)] at this
/-- The shifted distance is a ratio in lowest terms; times the length it is m times the distance, less the square of the sum of the differences. -/
theorem shn_ok {x y : List Int} (hx : Smp x) (hy : Smp y) (h2 : 2 ≤ x.length) (h32 : x.length ≤ 32) (hl : x.length = y.length) : ∃ p q g : Int, shn x y (sdif x y) = (p, q, 0) ∧ RatV p q ∧ 1 ≤ g ∧ (x.length : Int) * sqd x y - sdif x y * sdif x y = p * g ∧ (x.length : Int) = q * g := by
  have b0 := sqd_nonneg x y
  have b1 := sqd_big hx hy h32
  have b2 := mul_le4 (show (0 : Int) ≤ x.length by omega) (show (x.length : Int) ≤ 32 by omega) b0 b1
  have b5 := sqnn (sdif x y)
  have b6 := var_nonneg x y hl
  exact mkr_ok (by omega) (by omega) (by omega) (by omega)
theorem prof_succ (q l : List Int) (i : Nat) : prof q l (i + 1) = prof q l i ++ [sqd q ((l.take (i + q.length)).drop i)] := by
  unfold prof
  rw [List.range_succ, List.map_append]
  rfl
theorem prof_length (q l : List Int) (n : Nat) : (prof q l n).length = n := by simp [prof]
theorem euclid_Profile_l0 (q l : List Int) (n : Nat) (hq : Smp q) (hl : Smp l) (hq32 : q.length ≤ 32) (hl2 : l.length ≤ 2000) (hn : n + q.length ≤ l.length + 1) (d : Nat) :
    ∀ i : Nat, i + d = n → Ev (fun k => euclid_Profile.l0 k q l (q.length : Int) (prof q l i) (n : Int) (i : Int)) (prof q l n, 0) := by
  induction d with
  | zero =>
    intro i hi
    refine Ev.step (fun k => by rw [euclid_Profile.l0]) (Ev.neg (by omega) ?_)
    obtain rfl : i = n := by omega
    exact Ev.now _
  | succ d ih =>
    intro i hi
    have e0 : wrap64 ((i : Int) + (q.length : Int)) = ((i + q.length : Nat) : Int) := by rw [w64 (by omega) (by omega)]; omega
    have e : wrap64 ((i : Int) + 1) = ((i + 1 : Nat) : Int) := by rw [w64 (by omega) (by omega)]; omega
    have lw : ((l.take (i + q.length)).drop i).length = q.length := by rw [List.length_drop, List.length_take]; omega
    refine Ev.step (fun k => by rw [euclid_Profile.l0]) ?_
    rw [e0, e, Int.toNat_natCast, Int.toNat_natCast]
    refine Ev.pos (by omega) (Ev.pos (by omega) (Ev.pos (by omega) (Ev.pos (by omega) (Ev.bind (euclid_square_is q ((l.take (i + q.length)).drop i) hq ((hl.take _).drop _) (by omega) (by omega)) (Ev.pos (by rw [prof_length]; omega) ?_)))))
    rw [← prof_succ]
    exact ih (i + 1) (by omega)
theorem euclid_Profile_ok {q l : List Int} (hq : Smp q) (hl : Smp l) (h2 : 2 ≤ q.length) (hq32 : q.length ≤ 32) (hl2 : l.length ≤ 2000) : Ev (fun k => euclid_Profile.f k q l) (prof q l (l.length + 1 - q.length), 0) := by
  unfold euclid_Profile.f
  rw [euclid_length_is]
  have hlb : lenb q = true := decide_eq_true ⟨h2, hq32⟩
  refine Ev.bind (Ev.now _) (Ev.pos hlb (Ev.bind (euclid_samples_is q (by omega)) (Ev.pos ((smpb_iff q).2 hq) (Ev.neg (by omega) (Ev.bind (euclid_samples_is l (by omega)) (Ev.pos ((smpb_iff l).2 hl) ?_))))))
  have e1 : wrap64 ((l.length : Int) - (q.length : Int)) = (l.length : Int) - (q.length : Int) := w64 (by omega) (by omega)
  have e2 : wrap64 ((l.length : Int) - (q.length : Int) + 1) = (l.length : Int) - (q.length : Int) + 1 := w64 (by omega) (by omega)
  have e3 : mx 0 ((l.length : Int) - (q.length : Int) + 1) = ((l.length + 1 - q.length : Nat) : Int) := by unfold mx; split <;> omega
  rw [e1, e2, e3]
  by_cases h : q.length ≤ l.length
  · exact euclid_Profile_l0 q l (l.length + 1 - q.length) hq hl hq32 hl2 (by omega) (l.length + 1 - q.length) 0 (by omega)
  · have e4 : l.length + 1 - q.length = 0 := by omega
    rw [e4]
    refine Ev.step (fun k => by rw [euclid_Profile.l0]) (Ev.neg (by omega) ?_)
    exact Ev.now _
theorem prof_at (q l : List Int) (n i : Nat) (h : i < n) : rd (prof q l n) (i : Int) = sqd q ((l.take (i + q.length)).drop i) := by
  rw [rd_nat _ i (by rw [prof_length]; exact h)]
  simp [prof]
theorem ref01_common_l0 (b : Nat) : ∀ a : Nat, Ev (fun k => shapesearchref01_common.l0 k (a : Int) (b : Int)) (Nat.gcd a b : Int) := by
  induction b using Nat.strongRecOn with
  | _ b ih =>
    intro a
    refine Ev.step (fun k => by rw [shapesearchref01_common.l0]) ?_
    by_cases h : b = 0
    · subst h
      rw [Nat.gcd_zero_right]
      exact Ev.neg (by omega) (Ev.now _)
    · refine Ev.pos (by omega) (Ev.neg (by omega) ?_)
      have e1 : Int.tmod (a : Int) (b : Int) = ((a % b : Nat) : Int) := by rw [Int.tmod_eq_emod_of_nonneg (by omega)]; rfl
      have e2 : Nat.gcd a b = Nat.gcd b (a % b) := by rw [Nat.gcd_comm a b, Nat.gcd_rec b a, Nat.gcd_comm]
      rw [e1, e2]
      exact ih (a % b) (Nat.mod_lt _ (by omega)) b
theorem ref01_common_is (a b : Int) (ha : 0 ≤ a) (hb : 0 ≤ b) : Ev (fun k => shapesearchref01_common.f k a b) (gcdz a b) := by
  obtain ⟨m, rfl⟩ := Int.eq_ofNat_of_zero_le ha
  obtain ⟨n, rfl⟩ := Int.eq_ofNat_of_zero_le hb
  have := ref01_common_l0 n m
  unfold gcdz
  rw [Int.toNat_natCast, Int.toNat_natCast]
  exact this
theorem ref01_Valid_ok {p q : Int} (h : RatV p q) : Ev (fun k => shapesearchref01_Valid.f k p q) true := by
  obtain ⟨h1, h2, h3, h4, h5⟩ := h
  unfold shapesearchref01_Valid.f
  refine Ev.pos h1 (Ev.pos h2 (Ev.pos h3 (Ev.pos h4 (Ev.bind (ref01_common_is p q h1 (by omega)) ?_))))
  rw [h5]
  exact Ev.now _
/-! ### the document's functions (layer 12), for any windows -/
theorem ref12_Samples_l0 (x : List Int) (hn : x.length ≤ 1000000000) (d : Nat) : ∀ i : Nat, i + d = x.length → Ev (fun k => shapesearchref12_Samples.l0 k x (x.length : Int) (i : Int)) (if smpb (x.drop i) = true then 0 else 12) := by
  induction d with
  | zero =>
    intro i hi
    refine Ev.step (fun k => by rw [shapesearchref12_Samples.l0]) (Ev.neg (by omega) ?_)
    rw [List.drop_eq_nil_of_le (by omega)]
    exact Ev.now _
  | succ d ih =>
    intro i hi
    have hlt : i < x.length := by omega
    refine Ev.step (fun k => by rw [shapesearchref12_Samples.l0]) (Ev.pos (by omega) (Ev.pos (by omega) (Ev.pos (by omega) ?_)))
    have e : wrap64 ((i : Int) + 1) = ((i + 1 : Nat) : Int) := by rw [w64 (by omega) (by omega)]; omega
    rw [rd_nat x i hlt, List.drop_eq_getElem_cons hlt, e]
    have hc : smpb (x[i] :: x.drop (i + 1)) = (decide (-1000 ≤ x[i] ∧ x[i] ≤ 1000) && smpb (x.drop (i + 1))) := by unfold smpb; rw [List.all_cons]
    have hs : shapesearchref04_Sample.f x[i] = some (decide (-1000 ≤ x[i] ∧ x[i] ≤ 1000)) := by
      unfold shapesearchref04_Sample.f
      by_cases h1 : x[i] ≥ -1000
      · rw [if_pos h1]
        congr 1
        rw [decide_eq_decide]
        omega
      · rw [if_neg h1, decide_eq_false (by omega)]
    rw [hc, hs]
    refine Ev.bind (Ev.now _) ?_
    by_cases h : -1000 ≤ x[i] ∧ x[i] ≤ 1000
    · rw [decide_eq_true h, Bool.true_and]
      exact Ev.pos rfl (ih (i + 1) (by omega))
    · rw [decide_eq_false h, Bool.false_and]
      exact Ev.neg (by simp) (Ev.now _)
theorem ref12_Samples_is (x : List Int) (hn : x.length ≤ 1000000000) : Ev (fun k => shapesearchref12_Samples.f k x) (if smpb x = true then 0 else 12) := by
  have := ref12_Samples_l0 x hn x.length 0 (by omega)
  exact this
theorem ref12_Two_is (x y : List Int) (hx : x.length ≤ 1000000000) (hy : y.length ≤ 1000000000) : Ev (fun k => shapesearchref12_Two.f k x y 0) (chk x y) := by
  unfold chk
  have j1 : ∀ b : Bool, Ev (fun k => shapesearchref12_Two.j1 k x y 0 b) (if b = true then 12 else if x.length = y.length then 0 else 8) := by
    intro b
    refine Ev.step (fun k => by rw [shapesearchref12_Two.j1]) ?_
    cases b with
    | true => exact Ev.pos rfl (Ev.now _)
    | false =>
      refine Ev.neg (by simp) ?_
      rw [w64 (n := (x.length : Int) - (y.length : Int)) (by omega) (by omega), w64 (n := (y.length : Int) - (x.length : Int)) (by omega) (by omega), if_neg (show ¬ (false = true) by simp)]
      by_cases h : x.length = y.length
      · rw [if_pos h]
        exact Ev.neg (by omega) (Ev.neg (by omega) (Ev.now _))
      · rw [if_neg h]
        by_cases h1 : (x.length : Int) - (y.length : Int) > 0
        · exact Ev.pos h1 (Ev.now _)
        · exact Ev.neg h1 (Ev.pos (by omega) (Ev.now _))
  have j0 : ∀ b : Bool, Ev (fun k => shapesearchref12_Two.j0 k x y 0 b) (if b = true then 8 else if smpb x = true ∧ smpb y = true then (if x.length = y.length then 0 else 8) else 12) := by
    intro b
    refine Ev.step (fun k => by rw [shapesearchref12_Two.j0]) ?_
    cases b with
    | true => exact Ev.pos rfl (Ev.now _)
    | false =>
      refine Ev.neg (by simp) (Ev.bind (ref12_Samples_is x hx) ?_)
      rw [if_neg (show ¬ (false = true) by simp)]
      cases hsx : smpb x with
      | true =>
        rw [if_pos rfl]
        refine Ev.pos rfl (Ev.bind (ref12_Samples_is y hy) ?_)
        cases hsy : smpb y with
        | true => simpa using j1 false
        | false => simpa using j1 true
      | false =>
        rw [if_neg (show ¬ (false = true) by simp)]
        refine Ev.neg (by decide) ?_
        simpa using j1 true
  unfold shapesearchref12_Two.f lenb
  by_cases h1 : (x.length : Int) < 2
  · refine Ev.pos h1 ?_
    rw [if_neg (fun h => by have := of_decide_eq_true h.1; omega)]
    simpa using j0 true
  refine Ev.neg h1 ?_
  by_cases h2 : (x.length : Int) > 32
  · refine Ev.pos h2 ?_
    rw [if_neg (fun h => by have := of_decide_eq_true h.1; omega)]
    simpa using j0 true
  refine Ev.neg h2 ?_
  by_cases h3 : (y.length : Int) < 2
  · refine Ev.pos h3 ?_
    rw [if_neg (fun h => by have := of_decide_eq_true h.2; omega)]
    simpa using j0 true
  refine Ev.neg h3 ?_
  by_cases h4 : (y.length : Int) > 32
  · rw [decide_eq_true h4, if_neg (fun h => by have := of_decide_eq_true h.2; omega)]
    simpa using j0 true
  · rw [decide_eq_false h4, if_pos ⟨decide_eq_true (by omega), decide_eq_true (by omega)⟩]
    simpa using j0 false
theorem ref12_sums_l0 (x y : List Int) (hx : Smp x) (hy : Smp y) (hl : x.length = y.length) (hn : x.length ≤ 32) (d : Nat) :
    ∀ (i : Nat) (t s : Int), i + d = x.length → -2000 * i ≤ t → t ≤ 2000 * i → 0 ≤ s → s ≤ 4000000 * i → Ev (fun k => shapesearchref12_sums.l0 k x y t s (x.length : Int) (i : Int)) (t + sdif (x.drop i) (y.drop i), s + sqd (x.drop i) (y.drop i)) := by
  induction d with
  | zero =>
    intro i t s hi t0 t1 h0 h1
    refine Ev.step (fun k => by rw [shapesearchref12_sums.l0]) (Ev.neg (by omega) ?_)
    rw [List.drop_eq_nil_of_le (by omega)]
    simp only [sqd, sdif, Int.add_zero]
    exact Ev.now _
  | succ d ih =>
    intro i t s hi t0 t1 h0 h1
    have hlt : i < x.length := by omega
    have hlt' : i < y.length := by omega
    have bx := hx x[i] (List.getElem_mem _)
    have by_ := hy y[i] (List.getElem_mem _)
    refine Ev.step (fun k => by rw [shapesearchref12_sums.l0]) (Ev.pos (by omega) (Ev.pos (by omega) (Ev.pos (by omega) (Ev.pos (by omega) ?_))))
    have e : wrap64 ((i : Int) + 1) = ((i + 1 : Nat) : Int) := by rw [w64 (by omega) (by omega)]; omega
    have b1 := sqnn (x[i] - y[i])
    have b2 := abs_sq (a := x[i] - y[i]) (m := 2000) (by omega) (by omega)
    rw [rd_nat x i hlt, rd_nat y i hlt', List.drop_eq_getElem_cons hlt, List.drop_eq_getElem_cons hlt', e]
    have e1 : wrap64 (x[i] - y[i]) = x[i] - y[i] := w64 (by omega) (by omega)
    rw [e1]
    have e2 : wrap64 ((x[i] - y[i]) * (x[i] - y[i])) = (x[i] - y[i]) * (x[i] - y[i]) := w64 (by omega) (by omega)
    rw [e2]
    have e3 : wrap64 (s + (x[i] - y[i]) * (x[i] - y[i])) = s + (x[i] - y[i]) * (x[i] - y[i]) := w64 (by omega) (by omega)
    rw [e3]
    have e4 : wrap64 (t + x[i]) = t + x[i] := w64 (by omega) (by omega)
    rw [e4]
    have e5 : wrap64 (t + x[i] - y[i]) = t + (x[i] - y[i]) := by rw [w64 (by omega) (by omega)]; omega
    rw [e5]
    simp only [sqd, sdif]
    rw [← Int.add_assoc, ← Int.add_assoc]
    exact ih (i + 1) _ _ (by omega) (by omega) (by omega) (by omega) (by omega)
theorem ref12_sums_is (x y : List Int) (hx : Smp x) (hy : Smp y) (hl : x.length = y.length) (hn : x.length ≤ 32) : Ev (fun k => shapesearchref12_sums.f k x y) (sdif x y, sqd x y) := by
  have := ref12_sums_l0 x y hx hy hl hn x.length 0 0 0 (by omega) (by omega) (by omega) (by omega) (by omega)
  simp only [List.drop_zero, Int.zero_add] at this
  exact this
theorem ref12_Distance_is (x y : List Int) (hx : x.length ≤ 1000000000) (hy : y.length ≤ 1000000000) : Ev (fun k => shapesearchref12_Distance.f k x y) (if chk x y = 0 then (sqd x y, 0) else (0, chk x y)) := by
  unfold shapesearchref12_Distance.f
  refine Ev.bind (ref12_Two_is x y hx hy) ?_
  by_cases h : chk x y = 0
  · rw [if_pos h]
    obtain ⟨h1, h2, h3, h4, h5⟩ := chk_zero h
    exact Ev.pos h (Ev.bind (ref12_sums_is x y h1 h2 h5 h4) (Ev.now _))
  · rw [if_neg h]
    exact Ev.neg h (Ev.now _)
/-- What Within answers. -/
def wth (x y : List Int) (a : Int) : Int × Bool := if chk x y = 0 then (if sqd x y > a then (0, false) else (sqd x y, true)) else (0, false)
theorem ref12_Within_is (x y : List Int) (a : Int) (hx : x.length ≤ 1000000000) (hy : y.length ≤ 1000000000) : Ev (fun k => shapesearchref12_Within.f k x y a) (wth x y a) := by
  have d := ref12_Distance_is x y hx hy
  unfold shapesearchref12_Within.f
  by_cases h : chk x y = 0
  · rw [if_pos h] at d
    by_cases g : sqd x y > a
    · have e : wth x y a = (0, false) := by unfold wth; rw [if_pos h, if_pos g]
      rw [e]
      exact Ev.bind d (Ev.pos rfl (Ev.pos g (Ev.now _)))
    · have e : wth x y a = (sqd x y, true) := by unfold wth; rw [if_pos h, if_neg g]
      rw [e]
      exact Ev.bind d (Ev.pos rfl (Ev.neg g (Ev.now _)))
  · rw [if_neg h] at d
    have e : wth x y a = (0, false) := by unfold wth; rw [if_neg h]
    rw [e]
    exact Ev.bind d (Ev.neg h (Ev.now _))
theorem euclid_Within_l0 (x y : List Int) (a : Int) (hx : Smp x) (hy : Smp y) (hl : x.length = y.length) (hn : x.length ≤ 32) (d : Nat) :
    ∀ (i : Nat) (s v : Int) (r : Int × Bool), i + d = x.length → 0 ≤ s → s ≤ 4000000 * i → v = s + sqd (x.drop i) (y.drop i) → r = (if v > a then (0, false) else (v, true)) → Ev (fun k => euclid_Within.l0 k y a s x (x.length : Int) (i : Int)) r := by
  induction d with
  | zero =>
    intro i s v r hi h0 h1 hv hr
    rw [List.drop_eq_nil_of_le (by omega)] at hv
    simp only [sqd, Int.add_zero] at hv
    subst hv
    refine Ev.step (fun k => by rw [euclid_Within.l0]) (Ev.neg (by omega) ?_)
    by_cases g : v > a
    · rw [if_pos g] at hr
      subst hr
      exact Ev.pos g (Ev.now _)
    · rw [if_neg g] at hr
      subst hr
      exact Ev.neg g (Ev.now _)
  | succ d ih =>
    intro i s v r hi h0 h1 hv hr
    have HV := Aside0.mk hv
    clear hv
    have hlt : i < x.length := by omega
    have hlt' : i < y.length := by omega
    have bx := hx x[i] (List.getElem_mem _)
    have by_ := hy y[i] (List.getElem_mem _)
    refine Ev.step (fun k => by rw [euclid_Within.l0]) (Ev.pos (by omega) (Ev.pos (by omega) (Ev.pos (by omega) (Ev.pos (by omega) ?_))))
    have e : wrap64 ((i : Int) + 1) = ((i + 1 : Nat) : Int) := by rw [w64 (by omega) (by omega)]; omega
    have b1 := sqnn (x[i] - y[i])
    have b2 := abs_sq (a := x[i] - y[i]) (m := 2000) (by omega) (by omega)
    have b3 := sqd_nonneg (x.drop (i + 1)) (y.drop (i + 1))
    rw [rd_nat x i hlt, rd_nat y i hlt', e]
    have e1 : wrap64 (x[i] - y[i]) = x[i] - y[i] := w64 (by omega) (by omega)
    rw [e1]
    have e2 : wrap64 ((x[i] - y[i]) * (x[i] - y[i])) = (x[i] - y[i]) * (x[i] - y[i]) := w64 (by omega) (by omega)
    rw [e2]
    have e3 : wrap64 (s + (x[i] - y[i]) * (x[i] - y[i])) = s + (x[i] - y[i]) * (x[i] - y[i]) := w64 (by omega) (by omega)
    rw [e3]
    have b4 : s + (x[i] - y[i]) * (x[i] - y[i]) ≤ 4000000 * ((i + 1 : Nat) : Int) := by omega
    clear e e1 e2 e3 b2 bx by_
    have hv := HV.out
    clear HV
    rw [List.drop_eq_getElem_cons hlt, List.drop_eq_getElem_cons hlt'] at hv
    simp only [sqd] at hv
    rw [← Int.add_assoc] at hv
    generalize (x[i] - y[i]) * (x[i] - y[i]) = p at *
    by_cases g : s + p > a
    · rw [if_pos (show v > a by omega)] at hr
      subst hr
      exact Ev.pos g (Ev.now _)
    · exact Ev.neg g (ih (i + 1) (s + p) v r (by omega) (by omega) b4 hv hr)
theorem euclid_Within_is (x y : List Int) (a : Int) (hx : x.length ≤ 1000000000) (hy : y.length ≤ 1000000000) : Ev (fun k => euclid_Within.f k x y a) (wth x y a) := by
  unfold euclid_Within.f wth
  refine Ev.bind (euclid_check_is x y hx hy) ?_
  by_cases h : chk x y = 0
  · obtain ⟨h1, h2, h3, h4, h5⟩ := chk_zero h
    refine Ev.pos h ?_
    exact euclid_Within_l0 x y a h1 h2 h5 h4 x.length 0 0 (sqd x y) _ (by omega) (by omega) (by omega) (by simp) (by rw [if_pos h])
  · refine Ev.neg h ?_
    have e : (if chk x y = 0 then (if sqd x y > a then ((0 : Int), false) else (sqd x y, true)) else (0, false)) = (0, false) := if_neg h
    rw [e]
    exact Ev.now _
/-- What Profile answers. -/
def pfl (q l : List Int) : List Int × Int := if lenb q = true then (if smpb q = true then (if l.length > 2000 then ([], 4) else if smpb l = true then (prof q l (l.length + 1 - q.length), 0) else ([], 12)) else ([], 12)) else ([], 8)
theorem euclid_Profile_is (q l : List Int) (hq : q.length ≤ 1000000000) (hl : l.length ≤ 1000000000) : Ev (fun k => euclid_Profile.f k q l) (pfl q l) := by
  unfold pfl
  by_cases h1 : lenb q = true
  · rw [if_pos h1]
    by_cases h2 : smpb q = true
    · rw [if_pos h2]
      by_cases h3 : l.length > 2000
      · rw [if_pos h3]
        unfold euclid_Profile.f
        rw [euclid_length_is]
        exact Ev.bind (Ev.now _) (Ev.pos h1 (Ev.bind (euclid_samples_is q hq) (Ev.pos h2 (Ev.pos (by omega) (Ev.now _)))))
      · rw [if_neg h3]
        by_cases h4 : smpb l = true
        · rw [if_pos h4]
          have := of_decide_eq_true h1
          exact euclid_Profile_ok ((smpb_iff q).1 h2) ((smpb_iff l).1 h4) this.1 this.2 (by omega)
        · rw [if_neg h4]
          unfold euclid_Profile.f
          rw [euclid_length_is]
          exact Ev.bind (Ev.now _) (Ev.pos h1 (Ev.bind (euclid_samples_is q hq) (Ev.pos h2 (Ev.neg (by omega) (Ev.bind (euclid_samples_is l hl) (Ev.neg h4 (Ev.now _)))))))
    · rw [if_neg h2]
      unfold euclid_Profile.f
      rw [euclid_length_is]
      exact Ev.bind (Ev.now _) (Ev.pos h1 (Ev.bind (euclid_samples_is q hq) (Ev.neg h2 (Ev.now _))))
  · rw [if_neg h1]
    unfold euclid_Profile.f
    rw [euclid_length_is]
    exact Ev.bind (Ev.now _) (Ev.neg h1 (Ev.now _))
theorem ref12_Profile_l0 (q l : List Int) (hq : Smp q) (hl : Smp l) (h2 : 2 ≤ q.length) (hq32 : q.length ≤ 32) (hl2 : l.length ≤ 2000) (d : Nat) :
    ∀ i : Nat, i + d = l.length + 1 - q.length → Ev (fun k => shapesearchref12_Profile.l0 k q l (prof q l i) (i : Int)) (prof q l (l.length + 1 - q.length), 0) := by
  induction d with
  | zero =>
    intro i hi
    have e0 : wrap64 ((i : Int) + (q.length : Int)) = ((i + q.length : Nat) : Int) := by rw [w64 (by omega) (by omega)]; omega
    refine Ev.step (fun k => by rw [shapesearchref12_Profile.l0]) ?_
    rw [e0]
    refine Ev.neg (by omega) ?_
    obtain rfl : i = l.length + 1 - q.length := by omega
    exact Ev.now _
  | succ d ih =>
    intro i hi
    have e0 : wrap64 ((i : Int) + (q.length : Int)) = ((i + q.length : Nat) : Int) := by rw [w64 (by omega) (by omega)]; omega
    have e : wrap64 ((i : Int) + 1) = ((i + 1 : Nat) : Int) := by rw [w64 (by omega) (by omega)]; omega
    have lw : ((l.take (i + q.length)).drop i).length = q.length := by rw [List.length_drop, List.length_take]; omega
    have hd := ref12_Distance_is q ((l.take (i + q.length)).drop i) (by omega) (by omega)
    rw [if_pos (chk_ok hq ((hl.take _).drop _) h2 hq32 lw.symm)] at hd
    refine Ev.step (fun k => by rw [shapesearchref12_Profile.l0]) ?_
    rw [e0, e, Int.toNat_natCast, Int.toNat_natCast]
    refine Ev.pos (by omega) (Ev.pos (by omega) (Ev.pos (by omega) (Ev.bind hd (Ev.pos (by rw [prof_length]; omega) ?_))))
    rw [← prof_succ]
    exact ih (i + 1) (by omega)
theorem ref12_Profile_is (q l : List Int) (hq : q.length ≤ 1000000000) (hl : l.length ≤ 1000000000) : Ev (fun k => shapesearchref12_Profile.f k q l) (pfl q l) := by
  have hs : Ev (fun k => shapesearchref12_Search.f k q l) (pfl q l).2 := by
    unfold shapesearchref12_Search.f shapesearchref12_Window.f pfl
    by_cases h1 : lenb q = true
    · have := of_decide_eq_true h1
      rw [if_pos h1]
      refine Ev.bind (Ev.neg (by omega) (Ev.neg (by omega) (Ev.bind (ref12_Samples_is q hq) (Ev.now _)))) ?_
      by_cases h2 : smpb q = true
      · rw [if_pos h2, if_pos h2]
        refine Ev.pos rfl ?_
        by_cases h3 : l.length > 2000
        · rw [if_pos h3]
          exact Ev.pos (by omega) (Ev.now _)
        · rw [if_neg h3]
          refine Ev.neg (by omega) (Ev.bind (ref12_Samples_is l hl) ?_)
          by_cases h4 : smpb l = true
          · rw [if_pos h4, if_pos h4]
            exact Ev.now _
          · rw [if_neg h4, if_neg h4]
            exact Ev.now _
      · rw [if_neg h2, if_neg h2]
        exact Ev.neg (by decide) (Ev.now _)
    · rw [if_neg h1]
      by_cases h5 : (q.length : Int) < 2
      · exact Ev.bind (Ev.pos h5 (Ev.now _)) (Ev.neg (by decide) (Ev.now _))
      · have h6 : (q.length : Int) > 32 := by
          unfold lenb at h1
          rw [decide_eq_true_iff] at h1
          omega
        exact Ev.bind (Ev.neg h5 (Ev.pos h6 (Ev.now _))) (Ev.neg (by decide) (Ev.now _))
  unfold shapesearchref12_Profile.f
  refine Ev.bind hs ?_
  unfold pfl
  by_cases h1 : lenb q = true
  · have := of_decide_eq_true h1
    rw [if_pos h1]
    by_cases h2 : smpb q = true
    · rw [if_pos h2]
      by_cases h3 : l.length > 2000
      · rw [if_pos h3]
        exact Ev.neg (by decide) (Ev.now _)
      · rw [if_neg h3]
        by_cases h4 : smpb l = true
        · rw [if_pos h4]
          refine Ev.pos rfl ?_
          exact ref12_Profile_l0 q l ((smpb_iff q).1 h2) ((smpb_iff l).1 h4) this.1 this.2 (by omega) (l.length + 1 - q.length) 0 (by omega)
        · rw [if_neg h4]
          exact Ev.neg (by decide) (Ev.now _)
    · rw [if_neg h2]
      exact Ev.neg (by decide) (Ev.now _)
  · rw [if_neg h1]
    exact Ev.neg (by decide) (Ev.now _)
theorem ref01_Make_ok {n d : Int} (h0 : 0 ≤ n) (hn : n ≤ 2305843009213693952) (h1 : 1 ≤ d) (hd : d ≤ 1152921504606846976) : Ev (fun k => shapesearchref01_Make.f k n d) (mkr n d) := by
  have hg := gcdz_pos (n := n) (d := d) h1
  have b1 := Int.ediv_le_self (gcdz n d) (show 0 ≤ n by omega)
  have b2 := Int.ediv_le_self (gcdz n d) (show 0 ≤ d by omega)
  have b3 := Int.ediv_nonneg (show 0 ≤ n by omega) (show 0 ≤ gcdz n d by omega)
  have b4 := Int.ediv_nonneg (show 0 ≤ d by omega) (show 0 ≤ gcdz n d by omega)
  have em : mkr n d = (n / gcdz n d, d / gcdz n d, 0) := by
    unfold mkr
    rw [if_neg (by omega), if_pos ⟨by omega, by omega⟩]
  obtain ⟨p, q, g, e, v, -, -, -⟩ := mkr_ok h0 hn h1 hd
  rw [em] at e
  injection e with ep e
  injection e with eq e
  rw [← ep, ← eq] at v
  have e1 : wrap64 (Int.tdiv n (gcdz n d)) = n / gcdz n d := by rw [Int.tdiv_eq_ediv_of_nonneg (by omega), w64 (by omega) (by omega)]
  have e2 : wrap64 (Int.tdiv d (gcdz n d)) = d / gcdz n d := by rw [Int.tdiv_eq_ediv_of_nonneg (by omega), w64 (by omega) (by omega)]
  unfold shapesearchref01_Make.f
  refine Ev.neg (by omega) ?_
  rw [decide_eq_false (by omega)]
  refine Ev.step (fun k => by rw [shapesearchref01_Make.j0]) (Ev.neg (by simp) (Ev.bind (ref01_common_is n d h0 (by omega)) (Ev.neg (fun hz => by have hz' : gcdz n d = 0 := hz; omega) ?_)))
  rw [e1, e2, em]
  exact Ev.bind (ref01_Valid_ok v) (Ev.pos rfl (Ev.now _))
theorem ref12_Shifted_is (x y : List Int) (hx : x.length ≤ 1000000000) (hy : y.length ≤ 1000000000) : Ev (fun k => shapesearchref12_Shifted.f k x y) (if chk x y = 0 then shn x y (sdif x y) else (0, 0, chk x y)) := by
  unfold shapesearchref12_Shifted.f
  refine Ev.bind (ref12_Two_is x y hx hy) ?_
  by_cases h : chk x y = 0
  · rw [if_pos h]
    obtain ⟨h1, h2, h3, h4, h5⟩ := chk_zero h
    refine Ev.pos h (Ev.bind (ref12_sums_is x y h1 h2 h5 h4) ?_)
    have b0 := sqd_nonneg x y
    have b1 := sqd_big h1 h2 h4
    have b2 := mul_le4 (show (0 : Int) ≤ x.length by omega) (show (x.length : Int) ≤ 32 by omega) b0 b1
    have b3 := Int.mul_nonneg (show (0 : Int) ≤ x.length by omega) b0
    have b5 := sqnn (sdif x y)
    have b6 := var_nonneg x y h5
    have e1 : wrap64 ((x.length : Int) * sqd x y) = (x.length : Int) * sqd x y := w64 (by omega) (by omega)
    have e2 : wrap64 (sdif x y * sdif x y) = sdif x y * sdif x y := w64 (by omega) (by omega)
    have e3 : wrap64 ((x.length : Int) * sqd x y - sdif x y * sdif x y) = (x.length : Int) * sqd x y - sdif x y * sdif x y := w64 (by omega) (by omega)
    rw [e1, e2, e3]
    exact Ev.bind (ref01_Make_ok (by omega) (by omega) (by omega) (by omega)) (Ev.now _)
  · rw [if_neg h]
    exact Ev.neg h (Ev.now _)
theorem awake_is : Ev (fun k => shapesearchlaw12_awake.f k) true := Ev.of shapesearchlaw12_awake.mono (k := 30) (by decide +kernel)
theorem keep_Ints_self (x : List Int) (hn : x.length ≤ 1000000000) : Ev (fun k => shapesearchkeep_Ints.f k x x) true := by
  have := keep_Ints_is x x hn
  rwa [decide_eq_true rfl] at this
theorem answers_l2 (x1 : List Int) (x2 : Int) (x12 : List Int) (x78 : List S49) (x79 x80 : Int) (p : List Int) (s : Int) (q r : List Int) (hq : q.length ≤ 1000000000) (X : List (List Int)) (hX : ∀ l ∈ X, l.length ≤ 1000000) (hn : X.length ≤ 10)
    (next : EvP (fun k => shapesearchlaw12_EuclidAnswers.l0 k x1 x2 x12 x78 x79 (wrap64 (x80 + 1)) p s) (fun r => r = true)) (d : Nat) :
    ∀ i : Nat, i + d = X.length → EvP (fun k => shapesearchlaw12_EuclidAnswers.l2 k x1 x2 x12 x78 x79 x80 X (X.length : Int) (i : Int) p s q r) (fun r => r = true) := by
  induction d with
  | zero =>
    intro i hi
    exact EvP.step (fun k => by rw [shapesearchlaw12_EuclidAnswers.l2]) (EvP.neg (by omega) next)
  | succ d ih =>
    intro i hi
    have hlt : i < X.length := by omega
    have e : wrap64 ((i : Int) + 1) = ((i + 1 : Nat) : Int) := by rw [w64 (by omega) (by omega)]; omega
    have hl : (rd_L1 X (i : Int)).length ≤ 1000000000 := by
      unfold rd_L1
      rw [Int.toNat_natCast, List.getD_eq_getElem?_getD, List.getElem?_eq_getElem hlt, Option.getD_some]
      have := hX X[i] (List.getElem_mem _)
      omega
    refine EvP.step (fun k => by rw [shapesearchlaw12_EuclidAnswers.l2]) (EvP.pos (by omega) (EvP.pos (by omega) (EvP.pos (by omega) ?_)))
    rw [e]
    refine EvP.bind1 (euclid_Profile_is q _ hq hl) (EvP.bind1 (ref12_Profile_is q _ hq hl) (EvP.bind1 (keep_Ints_self (pfl q (rd_L1 X (i : Int))).1 ?_) (EvP.pos rfl (EvP.pos rfl (ih (i + 1) (by omega))))))
    unfold pfl
    split
    · split
      · split
        · simp
        · split
          · rw [prof_length]; omega
          · simp
      · simp
    · simp
theorem answers_l1 (x1 : List Int) (x2 : Int) (x12 : List Int) (x78 : List S49) (x79 x80 : Int) (p : List Int) (s : Int) (hs : Src p s) (q r : List Int) (hq : q.length ≤ 1000000000) (hr : r.length ≤ 1000000000) (h1 : x1.length ≤ 1000000) (h12 : x12.length ≤ 100000) (X : List Int) (hn : X.length ≤ 10)
    (next : ∀ s : Int, Src p s → EvP (fun k => shapesearchlaw12_EuclidAnswers.l0 k x1 x2 x12 x78 x79 (wrap64 (x80 + 1)) p s) (fun r => r = true)) (d : Nat) :
    ∀ i : Nat, i + d = X.length → EvP (fun k => shapesearchlaw12_EuclidAnswers.l1 k x1 x2 x12 x78 x79 x80 X (X.length : Int) (i : Int) p s q r) (fun r => r = true) := by
  induction d with
  | zero =>
    intro i hi
    refine EvP.step (fun k => by rw [shapesearchlaw12_EuclidAnswers.l1]) (EvP.neg (by omega) ?_)
    refine EvP.bind (keep_Bent p s x12 hs h12) (fun t ht => EvP.bind1 (Ev.now _) ?_)
    exact answers_l2 x1 x2 x12 x78 x79 x80 p _ q r hq [x1, x12, t.1] (fun l hl => by
      rcases List.mem_cons.1 hl with rfl | hl
      · exact h1
      rcases List.mem_cons.1 hl with rfl | hl
      · omega
      rcases List.mem_cons.1 hl with rfl | hl
      · exact ht.2
      · cases hl) (by simp) (next _ ht.1) 3 0 (by rfl)
  | succ d ih =>
    intro i hi
    have e : wrap64 ((i : Int) + 1) = ((i + 1 : Nat) : Int) := by rw [w64 (by omega) (by omega)]; omega
    refine EvP.step (fun k => by rw [shapesearchlaw12_EuclidAnswers.l1]) (EvP.pos (by omega) (EvP.pos (by omega) (EvP.pos (by omega) ?_)))
    rw [e]
    exact EvP.bind1 (euclid_Within_is q r _ hq hr) (EvP.bind1 (ref12_Within_is q r _ hq hr) (EvP.pos rfl (EvP.neg (by simp) (ih (i + 1) (by omega)))))
theorem answers_l0 (x1 : List Int) (x2 : Int) (x12 : List Int) (p : List Int) (h1 : x1.length ≤ 1000000) (h12 : x12.length ≤ 100000) (X : List S49) (hX : ∀ l ∈ X, l.f0.length ≤ 1000000 ∧ l.f1.length ≤ 1000000) (hn : X.length ≤ 10) (d : Nat) :
    ∀ (i : Nat) (s : Int), i + d = X.length → Src p s → EvP (fun k => shapesearchlaw12_EuclidAnswers.l0 k x1 x2 x12 X (X.length : Int) (i : Int) p s) (fun r => r = true) := by
  induction d with
  | zero =>
    intro i s hi hs
    exact EvP.step (fun k => by rw [shapesearchlaw12_EuclidAnswers.l0]) (EvP.neg (by omega) (EvP.bind1 awake_is (EvP.ret rfl)))
  | succ d ih =>
    intro i s hi hs
    have hlt : i < X.length := by omega
    have e : wrap64 ((i : Int) + 1) = ((i + 1 : Nat) : Int) := by rw [w64 (by omega) (by omega)]; omega
    have hl : (rd_T49 X (i : Int)).f0.length ≤ 1000000 ∧ (rd_T49 X (i : Int)).f1.length ≤ 1000000 := by
      unfold rd_T49
      rw [Int.toNat_natCast, List.getD_eq_getElem?_getD, List.getElem?_eq_getElem hlt, Option.getD_some]
      exact hX X[i] (List.getElem_mem _)
    refine EvP.step (fun k => by rw [shapesearchlaw12_EuclidAnswers.l0]) (EvP.pos (by omega) (EvP.pos (by omega) (EvP.pos (by omega) ?_)))
    generalize (rd_T49 X (i : Int)).f0 = q at *
    generalize (rd_T49 X (i : Int)).f1 = r at *
    refine EvP.bind1 (euclid_Distance_is q r (by omega) (by omega)) (EvP.bind1 (ref12_Distance_is q r (by omega) (by omega)) (EvP.bind1 (euclid_Shifted_is q r (by omega) (by omega)) (EvP.bind1 (ref12_Shifted_is q r (by omega) (by omega)) (EvP.pos rfl (EvP.pos rfl (EvP.neg (by simp) ?_))))))
    refine EvP.step (fun k => by rw [shapesearchlaw12_EuclidAnswers.j2]) (EvP.neg (by simp) (EvP.bind1 (Ev.now _) ?_))
    exact answers_l1 x1 x2 x12 X _ _ p s hs q r (by omega) (by omega) h1 h12 _ (by simp) (fun s' hs' => by rw [e]; exact ih (i + 1) s' (by omega) hs') 4 0 (by rfl)
theorem EuclidAnswers : shapesearchlaw12_EuclidAnswers.Pure := by
  intro l0 l1 a2 l3 h0 h1 h2 h3 h4 h5 h6 h7 h8 h9
  refine EvP.rounds ?_
  have j0 : ∀ b : Bool, (b = false → l0.length ≤ 200 ∧ l1.length ≤ 200) → EvP (fun k => shapesearchlaw12_EuclidAnswers.j0 k l0 l1 a2 l3 b) (fun r => r = true) := by
    intro b hb
    refine EvP.step (fun k => by rw [shapesearchlaw12_EuclidAnswers.j0]) ?_
    cases b with
    | true => exact EvP.pos rfl (EvP.bind1 awake_is (EvP.ret rfl))
    | false =>
      obtain ⟨hl0, hl1⟩ := hb rfl
      refine EvP.neg (by simp) (EvP.bind (keep_New l3 h9 h7) (fun s hs => EvP.bind (keep_Pair s.1 s.2 hs) (fun p hp => ?_)))
      obtain ⟨p1, pq, px, p2, p32, pl⟩ := hp
      refine EvP.bind (keep_N s.1 _ 40 p1 (by omega) (by omega)) (fun n hn => EvP.bind (keep_List s.1 _ _ hn.1 hn.2.1 (by omega)) (fun z hz => ?_))
      obtain ⟨z1, z2, z3⟩ := hz
      refine EvP.bind (keep_Bent s.1 _ p.2.1 z1 (by omega)) (fun u hu => EvP.bind (keep_Bent s.1 _ p.1 hu.1 (by omega)) (fun v hv => EvP.pos (by omega) (EvP.bind1 (Ev.now _) ?_)))
      refine answers_l0 l1 a2 z.1 s.1 (by omega) (by omega) _ (fun l hl => ?_) (by simp) 6 0 _ (by rfl) hv.1
      have hu2 := hu.2
      have hv2 := hv.2
      simp only [List.mem_cons, List.not_mem_nil, or_false] at hl
      rcases hl with rfl | rfl | rfl | rfl | rfl | rfl <;> simp only [List.length_drop] <;> omega
  unfold shapesearchlaw12_EuclidAnswers.f
  refine EvP.ite (fun h => j0 true (fun e => by cases e)) (fun h => j0 _ (fun e => ?_))
  have := of_decide_eq_false e
  omega

end Go.Proofs.Ytmkjmplkokfoiaa.Pure
