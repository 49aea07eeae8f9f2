/- This file proves that the greatest gap of bundles is the gap of some channel, and none of the others is greater. -/
import Derived.Test.YtodipcfbgnljeaaPChannelsGreatestx10
import Derived.Test.YtodipcfbgnljeaaBase
import Derived.Test.YtodipcfbgnljeaaMathEu
import Derived.Test.YtodipcfbgnljeaaMathRat
import Derived.Test.YtodipcfbgnljeaaMathNo
import Derived.Test.YtodipcfbgnljeaaMathWp
set_option linter.unusedVariables false
set_option linter.unusedSimpArgs false
namespace Go.Proofs.Ytodipcfbgnljeaa.Pure
open Go.RowKit Go.Proofs.Ytodipcfbgnljeaa.PChannelsGreatest Go.Proofs.YtodipcfbgnljeaaW.PrintWords Go.Proofs.YtodipcfbgnljeaaW.PrintLast Go.Proofs.YtodipcfbgnljeaaW.PrintMore Go.Proofs.Ytodipcfbgnljeaa.Base
/-! ### numbers out of a list -/
theorem keep_New (l0 : List Int) (h : ∀ x ∈ l0, (Lit.int .i64 x).wf = true) (hl : l0.length ≤ maxLen) : EvP (fun _ => shapesearchkeep_New.f l0) (fun r => Src r.1 r.2) := by
  have e : mn (l0.length : Int) 2000 = ((min l0.length 2000 : Nat) : Int) := by unfold mn; split <;> omega
  unfold shapesearchkeep_New.f
  rw [e]
  refine EvP.pos (by omega) (EvP.pos (by omega) (EvP.ret ?_))
  refine ⟨Int.le_refl _, by omega, by rw [List.length_take]; omega, fun x hx => b_i64 (h x (List.mem_of_mem_take hx))⟩
theorem keep_Raw (s : List Int) (a : Int) (h : Src s a) : EvP (fun _ => shapesearchkeep_Src_Raw.f s a) (fun r => Src s r.2 ∧ -9223372036854775808 ≤ r.1 ∧ r.1 ≤ 9223372036854775807) := by
  obtain ⟨h0, h1, h2, h3⟩ := h
  unfold shapesearchkeep_Src_Raw.f
  refine EvP.ite (fun hc => EvP.ret ⟨⟨h0, h1, h2, h3⟩, by omega, by omega⟩) (fun hc => ?_)
  have hw : wrap64 (a + 1) = a + 1 := w64 (by omega) (by omega)
  have hw2 : wrap64 (a + 1 - 1) = a := by rw [w64 (by omega) (by omega)]; omega
  rw [hw, hw2]
  have hm := h3 _ (rd_mem s a h0 (by omega))
  exact EvP.pos h0 (EvP.pos (by omega) (EvP.ret ⟨⟨by omega, by omega, h2, h3⟩, hm⟩))
theorem keep_Mod (a n : Int) (ha : -9223372036854775808 ≤ a) (ha' : a ≤ 9223372036854775807) (hn : 1 ≤ n) (hn' : n ≤ 9223372036854775807) : EvP (fun _ => shapesearchkeep_Mod.f a n) (fun t => 0 ≤ t ∧ t < n) := by
  have h1 := Int.tmod_lt_of_pos a (show 0 < n by omega)
  have h2 := Int.lt_tmod_of_pos a (show 0 < n by omega)
  unfold shapesearchkeep_Mod.f
  refine EvP.neg (by omega) (EvP.neg (by omega) (EvP.ite (fun hc => EvP.ret ?_) (fun hc => EvP.ret ?_)))
  · rw [w64 (by omega) (by omega)]
    omega
  · omega
theorem keep_N (s : List Int) (a n : Int) (h : Src s a) (hn : 1 ≤ n) (hn' : n ≤ 9223372036854775807) : EvP (fun _ => shapesearchkeep_Src_N.f s a n) (fun r => Src s r.2 ∧ 0 ≤ r.1 ∧ r.1 < n) := by
  unfold shapesearchkeep_Src_N.f
  refine EvP.bind (keep_Raw s a h) (fun x hx => EvP.bind (keep_Mod x.1 n hx.2.1 hx.2.2 hn hn') (fun t ht => EvP.ret ⟨hx.1, ht⟩))
theorem keep_Range (s : List Int) (a lo hi : Int) (h : Src s a) (hlo : -1000000000000 ≤ lo) (hlh : lo ≤ hi) (hhi : hi ≤ 1000000000000) : EvP (fun _ => shapesearchkeep_Src_Range.f s a lo hi) (fun r => Src s r.2 ∧ lo ≤ r.1 ∧ r.1 ≤ hi) := by
  have e1 : wrap64 (hi - lo) = hi - lo := w64 (by omega) (by omega)
  have e2 : wrap64 (hi - lo + 1) = hi - lo + 1 := w64 (by omega) (by omega)
  unfold shapesearchkeep_Src_Range.f
  rw [e1, e2]
  refine EvP.bind (keep_N s a (hi - lo + 1) h (by omega) (by omega)) (fun x hx => EvP.ret ⟨hx.1, ?_⟩)
  have e3 : wrap64 (lo + x.1) = lo + x.1 := w64 (by omega) (by omega)
  show lo ≤ wrap64 (lo + x.1) ∧ wrap64 (lo + x.1) ≤ hi
  rw [e3]
  omega
theorem keep_Pick (s : List Int) (a : Int) (l : List Int) (h : Src s a) (hl : 1 ≤ l.length) (hl' : l.length ≤ 1000000) : EvP (fun _ => shapesearchkeep_Src_Pick.f s a l) (fun r => Src s r.2 ∧ r.1 ∈ l) := by
  unfold shapesearchkeep_Src_Pick.f
  exact EvP.bind (keep_N s a l.length h (by omega) (by omega)) (fun x hx => EvP.pos hx.2.1 (EvP.pos hx.2.2 (EvP.ret ⟨hx.1, rd_mem l x.1 hx.2.1 hx.2.2⟩)))
theorem keep_clip (x : Int) : EvP (fun _ => shapesearchkeep_clip.f x) (fun t => -1000 ≤ t ∧ t ≤ 1000) := by
  unfold shapesearchkeep_clip.f
  refine EvP.ret ⟨le_mn (Int.le_trans (by omega) (le_mx_right _ _)) (by omega), mn_le_right _ _⟩
theorem keep_List_l0 (s : List Int) (n kind size : Int) (hs : 1 ≤ size ∧ size ≤ 1000) (hn : 0 ≤ n ∧ n ≤ 100000) (d : Nat) :
    ∀ (x : Int) (out : List Int) (a : Int), Src s a → Smp out → -1000 ≤ x → x ≤ 1000 → out.length + d = n →
      EvP (fun k => shapesearchkeep_Src_List.l0 k n kind size x out out.length s a) (fun r => Src s r.2 ∧ Smp r.1 ∧ (r.1.length : Int) = n) := by
  have es : wrap64 (-size) = -size := w64 (by omega) (by omega)
  induction d with
  | zero =>
    intro x out a h ho hx hx' hd
    refine EvP.step (fun k => by rw [shapesearchkeep_Src_List.l0]) ?_
    exact EvP.neg (by omega) (EvP.ret ⟨h, ho, by dsimp only; omega⟩)
  | succ d ih =>
    intro x out a h ho hx hx' hd
    have ew : wrap64 ((out.length : Int) + 1) = (out.length : Int) + 1 := w64 (by omega) (by omega)
    have el : ∀ y : Int, (out.length : Int) + 1 = ((out ++ [y]).length : Nat) := fun y => by simp
    have push : ∀ (x' y a' : Int), Src s a' → -1000 ≤ x' → x' ≤ 1000 → -1000 ≤ y → y ≤ 1000 → EvP (fun k => shapesearchkeep_Src_List.l0 k n kind size x' (out ++ [y]) (wrap64 ((out.length : Int) + 1)) s a') (fun r => Src s r.2 ∧ Smp r.1 ∧ (r.1.length : Int) = n) := by
      intro x' y a' ha h1 h2 h3 h4
      rw [ew, el y]
      exact ih x' (out ++ [y]) a' ha (ho.snoc h3 h4) h1 h2 (by simp; omega)
    have hL : out.length < 17592186044416 := by omega
    have j3 : ∀ b : Bool, EvP (fun k => shapesearchkeep_Src_List.j3 k n kind size x out out.length kind b s a) (fun r => Src s r.2 ∧ Smp r.1 ∧ (r.1.length : Int) = n) := by
      intro b
      refine EvP.step (fun k => by rw [shapesearchkeep_Src_List.j3]) ?_
      refine EvP.ite (fun _ => ?_) (fun _ => EvP.ite (fun _ => ?_) (fun _ => ?_))
      · rw [es]
        refine EvP.bind (keep_Range s a (-size) size h (by omega) (by omega) (by omega)) (fun q hq => ?_)
        refine EvP.bind (keep_clip _) (fun t ht => EvP.pos hL (push t t q.2 hq.1 ht.1 ht.2 ht.1 ht.2))
      · refine EvP.bind (keep_N s a 4 h (by omega) (by omega)) (fun q hq => EvP.ite (fun _ => ?_) (fun _ => EvP.pos hL (push x x q.2 hq.1 hx hx' hx hx')))
        rw [es]
        exact EvP.bind (keep_Range s q.2 (-size) size hq.1 (by omega) (by omega) (by omega)) (fun p hp => EvP.pos hL (push p.1 p.1 p.2 hp.1 (by omega) (by omega) (by omega) (by omega)))
      · refine EvP.bind (keep_Pick s a [-1000, 1000, 1000, 0] h (by simp) (by simp)) (fun q hq => EvP.pos hL (push x q.1 q.2 hq.1 hx hx' ?_ ?_)) <;>
        · have := hq.2
          simp at this
          omega
    have j2 : ∀ b : Bool, EvP (fun k => shapesearchkeep_Src_List.j2 k n kind size x out out.length kind b s a) (fun r => Src s r.2 ∧ Smp r.1 ∧ (r.1.length : Int) = n) := by
      intro b
      refine EvP.step (fun k => by rw [shapesearchkeep_Src_List.j2]) ?_
      refine EvP.ite (fun _ => ?_) (fun _ => EvP.ite (fun _ => j3 _) (fun _ => j3 _))
      rw [es]
      exact EvP.bind (keep_Range s a (-size) size h (by omega) (by omega) (by omega)) (fun q hq => EvP.pos hL (push x q.1 q.2 hq.1 hx hx' (by omega) (by omega)))
    refine EvP.step (fun k => by rw [shapesearchkeep_Src_List.l0]) ?_
    exact EvP.pos (by omega) (EvP.ite (fun _ => j2 _) (fun _ => j2 _))
theorem keep_List (s : List Int) (a n : Int) (h : Src s a) (hn : 0 ≤ n) (hn' : n ≤ 100000) : EvP (fun k => shapesearchkeep_Src_List.f k s a n) (fun r => Src s r.2 ∧ Smp r.1 ∧ (r.1.length : Int) = n) := by
  unfold shapesearchkeep_Src_List.f
  refine EvP.bind (keep_N s a 6 h (by omega) (by omega)) (fun p hp => EvP.bind (keep_Pick s p.2 [1, 3, 10, 100, 1000] hp.1 (by simp) (by simp)) (fun q hq => ?_))
  have hq2 : 1 ≤ q.1 ∧ q.1 ≤ 1000 := by
    have := hq.2
    simp at this
    omega
  have j0 : ∀ x a', Src s a' → -1000 ≤ x → x ≤ 1000 → EvP (fun k => shapesearchkeep_Src_List.j0 k n p.1 q.1 x s a') (fun r => Src s r.2 ∧ Smp r.1 ∧ (r.1.length : Int) = n) := by
    intro x a' ha h1 h2
    refine EvP.step (fun k => by rw [shapesearchkeep_Src_List.j0]) ?_
    exact keep_List_l0 s n p.1 q.1 hq2 ⟨hn, hn'⟩ n.toNat x [] a' ha Smp.nil h1 h2 (by simp; omega)
  refine EvP.bind (keep_N s q.2 3 hq.1 (by omega) (by omega)) (fun r hr => EvP.ite (fun _ => ?_) (fun _ => j0 0 r.2 hr.1 (by omega) (by omega)))
  exact EvP.bind (keep_Range s r.2 (-1000) 1000 hr.1 (by omega) (by omega) (by omega)) (fun v hv => j0 v.1 v.2 hv.1 (by omega) (by omega))
theorem keep_Near_l0 (s x : List Int) (kind by_ q : Int) (hx : Smp x) (hn : 1 ≤ x.length) (hn' : x.length ≤ 100000) (d : Nat) :
    ∀ (out : List Int) (i : Int) (a : Int), Src s a → Smp out → out.length = x.length → 0 ≤ i → i + d = x.length →
      EvP (fun k => shapesearchkeep_Src_Near.l0 k x kind by_ q out (x.length : Int) i s a) (fun r => Src s r.2 ∧ Smp r.1 ∧ r.1.length = x.length) := by
  induction d with
  | zero =>
    intro out i a h ho hl hi hd
    refine EvP.step (fun k => by rw [shapesearchkeep_Src_Near.l0]) ?_
    exact EvP.neg (by omega) (EvP.ret ⟨h, ho, hl⟩)
  | succ d ih =>
    intro out i a h ho hl hi hd
    have ew : wrap64 (i + 1) = i + 1 := w64 (by omega) (by omega)
    have next : ∀ (out' : List Int) (a' : Int), Src s a' → Smp out' → out'.length = x.length → EvP (fun k => shapesearchkeep_Src_Near.l0 k x kind by_ q out' (x.length : Int) (wrap64 (i + 1)) s a') (fun r => Src s r.2 ∧ Smp r.1 ∧ r.1.length = x.length) := by
      intro out' a' h1 h2 h3
      rw [ew]
      exact ih out' (i + 1) a' h1 h2 h3 (by omega) (by omega)
    have put : ∀ (y a' : Int), Src s a' → -1000 ≤ y → y ≤ 1000 → EvP (fun k => shapesearchkeep_Src_Near.l0 k x kind by_ q (out.set (i : Int).toNat y) (x.length : Int) (wrap64 (i + 1)) s a') (fun r => Src s r.2 ∧ Smp r.1 ∧ r.1.length = x.length) :=
      fun y a' h1 h2 h3 => next _ a' h1 (ho.set _ h2 h3) (by simp [hl])
    have hlt : i < (out.length : Int) := by omega
    refine EvP.step (fun k => by rw [shapesearchkeep_Src_Near.l0]) ?_
    refine EvP.pos (by omega) ?_
    refine EvP.ite (fun _ => EvP.pos hi (EvP.pos hlt ?_)) (fun _ => ?_)
    · exact EvP.bind (keep_Range s a (-2) 2 h (by omega) (by omega) (by omega)) (fun p hp => EvP.bind (keep_clip _) (fun t ht => put t p.2 hp.1 ht.1 ht.2))
    refine EvP.ite (fun _ => EvP.pos hi (EvP.pos hlt ?_)) (fun _ => ?_)
    · exact EvP.bind (keep_clip _) (fun t ht => put t a h ht.1 ht.2)
    refine EvP.ite (fun _ => EvP.pos hi (EvP.pos hlt ?_)) (fun _ => ?_)
    · exact EvP.bind (keep_clip _) (fun t ht => put t a h ht.1 ht.2)
    refine EvP.ite (fun _ => ?_) (fun _ => ?_)
    · have e1 : wrap64 ((x.length : Int) - 1) = (x.length : Int) - 1 := w64 (by omega) (by omega)
      have e2 : wrap64 ((x.length : Int) - 1 - i) = (x.length : Int) - 1 - i := w64 (by omega) (by omega)
      rw [e1, e2]
      have hr := hx.at ((x.length : Int) - 1 - i) (by omega) (by omega)
      exact EvP.pos (by omega) (EvP.pos (by omega) (EvP.pos hi (EvP.pos hlt (put _ a h hr.1 hr.2))))
    refine EvP.ite (fun _ => ?_) (fun _ => ?_)
    · refine EvP.bind (keep_Range s a (-1) 1 h (by omega) (by omega) (by omega)) (fun p hp => ?_)
      refine EvP.bind (keep_Mod _ _ (w64_lo _) (w64_hi _) (by omega) (by omega)) (fun t ht => ?_)
      have hr := hx.at t ht.1 ht.2
      exact EvP.pos ht.1 (EvP.pos ht.2 (EvP.pos hi (EvP.pos hlt (put _ p.2 hp.1 hr.1 hr.2))))
    refine EvP.ite (fun _ => EvP.pos hi (EvP.pos hlt ?_)) (fun _ => next out a h ho hl)
    exact EvP.bind (keep_clip _) (fun t ht => put t a h ht.1 ht.2)
theorem keep_Near (s : List Int) (a : Int) (x : List Int) (h : Src s a) (hx : Smp x) (hn : 1 ≤ x.length) (hn' : x.length ≤ 100000) : EvP (fun k => shapesearchkeep_Src_Near.f k s a x) (fun r => Src s r.2 ∧ Smp r.1 ∧ r.1.length = x.length) := by
  unfold shapesearchkeep_Src_Near.f
  refine EvP.bind (keep_N s a 7 h (by omega) (by omega)) (fun p hp => EvP.bind (keep_Range s p.2 (-20) 20 hp.1 (by omega) (by omega) (by omega)) (fun q hq => EvP.bind (keep_Range s q.2 1 3 hq.1 (by omega) (by omega) (by omega)) (fun r hr => ?_)))
  refine EvP.bind (Ev.evp (Ev.now _)) (fun y hy => ?_)
  subst hy
  refine EvP.pos (by simp; omega) (EvP.bind (Ev.evp (Ev.now _)) (fun z hz => ?_))
  have hz' : z = x := hz
  rw [hz']
  exact keep_Near_l0 s x p.1 q.1 r.1 hx hn hn' x.length x 0 r.2 hr.1 hx rfl (by omega) (by omega)
theorem keep_Length (s : List Int) (a : Int) (h : Src s a) : EvP (fun _ => shapesearchkeep_Src_Length.f s a) (fun r => Src s r.2 ∧ 2 ≤ r.1 ∧ r.1 ≤ 32) := by
  unfold shapesearchkeep_Src_Length.f
  refine EvP.bind (keep_N s a 8 h (by omega) (by omega)) (fun p hp => EvP.ite (fun _ => ?_) (fun _ => ?_))
  · exact EvP.bind (keep_Range s p.2 13 32 hp.1 (by omega) (by omega) (by omega)) (fun q hq => EvP.ret ⟨hq.1, by have := hq.2; omega⟩)
  · exact EvP.bind (keep_Range s p.2 2 12 hp.1 (by omega) (by omega) (by omega)) (fun q hq => EvP.ret ⟨hq.1, by have := hq.2; omega⟩)
theorem keep_Pair (s : List Int) (a : Int) (h : Src s a) : EvP (fun k => shapesearchkeep_Src_Pair.f k s a) (fun r => Src s r.2.2 ∧ Smp r.1 ∧ Smp r.2.1 ∧ 2 ≤ r.1.length ∧ r.1.length ≤ 32 ∧ r.2.1.length = r.1.length) := by
  unfold shapesearchkeep_Src_Pair.f
  refine EvP.bind (keep_Length s a h) (fun n hn => EvP.bind (keep_List s n.2 n.1 hn.1 (by omega) (by omega)) (fun x hx => EvP.bind (keep_N s x.2 3 hx.1 (by omega) (by omega)) (fun p hp => ?_)))
  obtain ⟨hx0, hx1, hx2⟩ := hx
  refine EvP.ite (fun _ => ?_) (fun _ => ?_)
  · refine EvP.bind (keep_List s p.2 (x.1.length : Int) hp.1 (by omega) (by omega)) (fun y hy => EvP.ret ⟨hy.1, hx1, hy.2.1, by dsimp only; omega, by dsimp only; omega, by have := hy.2.2; dsimp only; omega⟩)
  · exact EvP.bind (keep_Near s p.2 x.1 hp.1 hx1 (by omega) (by omega)) (fun y hy => EvP.ret ⟨hy.1, hx1, hy.2.1, by dsimp only; omega, by dsimp only; omega, hy.2.2⟩)
/-! ### windows, and their distances -/
def lenb (x : List Int) : Bool := decide (2 ≤ x.length ∧ x.length ≤ 32)
def smpb (x : List Int) : Bool := x.all fun v => decide (-1000 ≤ v ∧ v ≤ 1000)
theorem smpb_iff (x : List Int) : smpb x = true ↔ Smp x := by
  unfold smpb Smp
  simp [List.all_eq_true]
theorem euclid_length_is (x : List Int) : euclid_length.f x = some (lenb x) := by
  unfold euclid_length.f lenb
  split
  · rename_i h
    congr 1
    rw [Bool.eq_iff_iff]
    simp
    omega
  · rename_i h
    congr 1
    symm
    simp
    omega
theorem euclid_samples_l0 (x : List Int) (hn : x.length ≤ 1000000000) (d : Nat) : ∀ i : Nat, i + d = x.length → Ev (fun k => euclid_samples.l0 k x (x.length : Int) (i : Int)) (smpb (x.drop i)) := by
  induction d with
  | zero =>
    intro i hi
    refine Ev.step (fun k => by rw [euclid_samples.l0]) (Ev.neg (by omega) ?_)
    rw [List.drop_eq_nil_of_le (by omega)]
    exact Ev.now _
  | succ d ih =>
    intro i hi
    have hlt : i < x.length := by omega
    refine Ev.step (fun k => by rw [euclid_samples.l0]) (Ev.pos (by omega) (Ev.pos (by omega) (Ev.pos (by omega) ?_)))
    have e : wrap64 ((i : Int) + 1) = ((i + 1 : Nat) : Int) := by rw [w64 (by omega) (by omega)]; omega
    rw [rd_nat x i hlt, List.drop_eq_getElem_cons hlt, e]
    have hc : smpb (x[i] :: x.drop (i + 1)) = (decide (-1000 ≤ x[i] ∧ x[i] ≤ 1000) && smpb (x.drop (i + 1))) := by unfold smpb; rw [List.all_cons]
    rw [hc]
    by_cases h1 : x[i] < -1000
    · rw [decide_eq_false (by omega)]
      exact Ev.pos h1 (Ev.now _)
    · refine Ev.neg h1 ?_
      by_cases h2 : x[i] > 1000
      · rw [decide_eq_false (by omega)]
        exact Ev.pos h2 (Ev.now _)
      · refine Ev.neg h2 ?_
        rw [decide_eq_true (by omega), Bool.true_and]
        exact ih (i + 1) (by omega)
theorem euclid_samples_is (x : List Int) (hn : x.length ≤ 1000000000) : Ev (fun k => euclid_samples.f k x) (smpb x) := by
  have := euclid_samples_l0 x hn x.length 0 (by omega)
  exact this
/-- The first error of two windows of one length. -/
def chk (x y : List Int) : Int := if lenb x = true ∧ lenb y = true then (if smpb x = true ∧ smpb y = true then (if x.length = y.length then 0 else 8) else 12) else 8
theorem euclid_check_is (x y : List Int) (hx : x.length ≤ 1000000000) (hy : y.length ≤ 1000000000) : Ev (fun k => euclid_check.f k x y) (chk x y) := by
  unfold chk
  have j1 : ∀ b : Bool, Ev (fun k => euclid_check.j1 k x y b) (if b = true then 12 else if x.length = y.length then 0 else 8) := by
    intro b
    refine Ev.step (fun k => by rw [euclid_check.j1]) ?_
    cases b with
    | true => exact Ev.pos rfl (Ev.now _)
    | false =>
      refine Ev.neg (by simp) ?_
      by_cases h : x.length = y.length
      · have e : (if false = true then (12 : Int) else if x.length = y.length then 0 else 8) = 0 := by simp [h]
        rw [e]
        exact Ev.pos (by omega) (Ev.now _)
      · have e : (if false = true then (12 : Int) else if x.length = y.length then 0 else 8) = 8 := by simp [h]
        rw [e]
        exact Ev.neg (by omega) (Ev.now _)
  have j0 : ∀ b : Bool, Ev (fun k => euclid_check.j0 k x y b) (if b = true then 8 else if smpb x = true ∧ smpb y = true then (if x.length = y.length then 0 else 8) else 12) := by
    intro b
    refine Ev.step (fun k => by rw [euclid_check.j0]) ?_
    cases b with
    | true => exact Ev.pos rfl (Ev.now _)
    | false =>
      refine Ev.neg (by simp) (Ev.bind (euclid_samples_is x hx) ?_)
      rw [if_neg (by simp)]
      cases hsx : smpb x with
      | true =>
        refine Ev.pos rfl (Ev.bind (euclid_samples_is y hy) ?_)
        have := j1 (!smpb y)
        cases hsy : smpb y <;> simpa [hsy] using this
      | false =>
        refine Ev.neg (by simp) ?_
        simpa using j1 true
  unfold euclid_check.f
  rw [euclid_length_is x, euclid_length_is y]
  refine Ev.bind (Ev.now _) ?_
  cases hlx : lenb x with
  | true =>
    refine Ev.pos rfl (Ev.bind (Ev.now _) ?_)
    have := j0 (!lenb y)
    cases hly : lenb y <;> simpa [hly] using this
  | false =>
    refine Ev.neg (by simp) ?_
    simpa using j0 true
theorem euclid_square_l0 (x y : List Int) (hx : Smp x) (hy : Smp y) (hl : x.length = y.length) (hn : x.length ≤ 100000) (d : Nat) :
    ∀ (i : Nat) (s : Int), i + d = x.length → 0 ≤ s → s ≤ 4000000 * i → Ev (fun k => euclid_square.l0 k y s x (x.length : Int) (i : Int)) (s + sqd (x.drop i) (y.drop i)) := by
  induction d with
  | zero =>
    intro i s hi h0 h1
    refine Ev.step (fun k => by rw [euclid_square.l0]) (Ev.neg (by omega) ?_)
    rw [List.drop_eq_nil_of_le (by omega)]
    simp only [sqd, Int.add_zero]
    exact Ev.now _
  | succ d ih =>
    intro i s hi h0 h1
    have hlt : i < x.length := by omega
    have hlt' : i < y.length := by omega
    have bx := hx x[i] (List.getElem_mem _)
    have by_ := hy y[i] (List.getElem_mem _)
    refine Ev.step (fun k => by rw [euclid_square.l0]) (Ev.pos (by omega) (Ev.pos (by omega) (Ev.pos (by omega) (Ev.pos (by omega) ?_))))
    have e : wrap64 ((i : Int) + 1) = ((i + 1 : Nat) : Int) := by rw [w64 (by omega) (by omega)]; omega
    have b1 := sqnn (x[i] - y[i])
    have b2 := abs_sq (a := x[i] - y[i]) (m := 2000) (by omega) (by omega)
    rw [rd_nat x i hlt, rd_nat y i hlt', List.drop_eq_getElem_cons hlt, List.drop_eq_getElem_cons hlt', e]
    have e1 : wrap64 (x[i] - y[i]) = x[i] - y[i] := w64 (by omega) (by omega)
    rw [e1]
    have e2 : wrap64 ((x[i] - y[i]) * (x[i] - y[i])) = (x[i] - y[i]) * (x[i] - y[i]) := w64 (by omega) (by omega)
    rw [e2]
    have e3 : wrap64 (s + (x[i] - y[i]) * (x[i] - y[i])) = s + (x[i] - y[i]) * (x[i] - y[i]) := w64 (by omega) (by omega)
    rw [e3]
    simp only [sqd]
    rw [← Int.add_assoc]
    exact ih (i + 1) _ (by omega) (by omega) (by omega)
theorem euclid_square_is (x y : List Int) (hx : Smp x) (hy : Smp y) (hl : x.length = y.length) (hn : x.length ≤ 100000) : Ev (fun k => euclid_square.f k x y) (sqd x y) := by
  have := euclid_square_l0 x y hx hy hl hn x.length 0 0 (by omega) (by omega) (by omega)
  simp only [List.drop_zero, Int.zero_add] at this
  exact this
theorem chk_ok {x y : List Int} (hx : Smp x) (hy : Smp y) (h2 : 2 ≤ x.length) (h32 : x.length ≤ 32) (hl : x.length = y.length) : chk x y = 0 := by
  unfold chk lenb
  rw [if_pos ⟨decide_eq_true ⟨h2, h32⟩, decide_eq_true (by omega)⟩, if_pos ⟨(smpb_iff x).2 hx, (smpb_iff y).2 hy⟩, if_pos hl]
theorem chk_zero {x y : List Int} (h : chk x y = 0) : Smp x ∧ Smp y ∧ 2 ≤ x.length ∧ x.length ≤ 32 ∧ x.length = y.length := by
  unfold chk at h
  split at h
  · rename_i h1
    split at h
    · rename_i h2
      split at h
      · rename_i h3
        have := of_decide_eq_true h1.1
        exact ⟨(smpb_iff x).1 h2.1, (smpb_iff y).1 h2.2, this.1, this.2, h3⟩
      · omega
    · omega
  · omega
theorem euclid_Distance_is (x y : List Int) (hx : x.length ≤ 1000000000) (hy : y.length ≤ 1000000000) : Ev (fun k => euclid_Distance.f k x y) (if chk x y = 0 then (sqd x y, 0) else (0, chk x y)) := by
  unfold euclid_Distance.f
  refine Ev.bind (euclid_check_is x y hx hy) ?_
  by_cases h : chk x y = 0
  · rw [if_pos h]
    obtain ⟨h1, h2, h3, h4, h5⟩ := chk_zero h
    exact Ev.pos h (Ev.bind (euclid_square_is x y h1 h2 h5 (by omega)) (Ev.now _))
  · rw [if_neg h]
    exact Ev.neg h (Ev.now _)
theorem euclid_Distance_ok {x y : List Int} (hx : Smp x) (hy : Smp y) (h2 : 2 ≤ x.length) (h32 : x.length ≤ 32) (hl : x.length = y.length) : Ev (fun k => euclid_Distance.f k x y) (sqd x y, 0) := by
  have := euclid_Distance_is x y (by omega) (by omega)
  rwa [if_pos (chk_ok hx hy h2 h32 hl)] at this
theorem sqd_big {x y : List Int} (hx : Smp x) (hy : Smp y) (h32 : x.length ≤ 32) : sqd x y ≤ 128000000 := by
  have := sqd_le 1000 x y hx hy
  omega
/-! ### bundles of channels -/
/-- Two bundles that fit: as many channels, each of n and of m samples, and a band. -/
structure Fit (p q : List (List Int)) (n m : Nat) (b : Int) : Prop where
  p1 : 1 ≤ p.length
  p4 : p.length ≤ 4
  pq : p.length = q.length
  pr : ∀ x ∈ p, x.length = n ∧ Smp x
  qr : ∀ y ∈ q, y.length = m ∧ Smp y
  n2 : 2 ≤ n ∧ n ≤ 32
  m2 : 2 ≤ m ∧ m ≤ 32
  b0 : 0 ≤ b ∧ b ≤ 32
  nm : (n : Int) - (m : Int) ≤ b ∧ (m : Int) - (n : Int) ≤ b
theorem rdL_mem {p : List (List Int)} {i : Nat} (h : i < p.length) : rd_L1 p (i : Int) ∈ p := by
  show p.getD (i : Int).toNat [] ∈ p
  rw [Int.toNat_natCast, List.getD_eq_getElem?_getD, List.getElem?_eq_getElem h]
  exact List.getElem_mem h
theorem rdL_chn (p : List (List Int)) (i : Nat) : rd_L1 p (i : Int) = X.chn p i := by
  show p.getD (i : Int).toNat [] = p.getD i []
  rw [Int.toNat_natCast]
theorem chn_in {p : List (List Int)} {i : Nat} (h : i < p.length) : X.chn p i ∈ p := by rw [← rdL_chn]; exact rdL_mem h
theorem count_is {p : List (List Int)} (h1 : 1 ≤ p.length) (h4 : p.length ≤ 4) : channels_count.f p = some true := by
  unfold channels_count.f
  rw [if_pos (by omega), decide_eq_true (by omega)]
theorem proper_l1 (Y : List (List (List Int))) (z : Int) (r : List (List Int)) (hr : ∀ x ∈ r, 2 ≤ x.length ∧ x.length ≤ 32 ∧ Smp x) (h4 : r.length ≤ 4) (v : Int) (hn : Ev (fun k => channels_proper.l0 k 0 Y (Y.length : Int) (wrap64 (z + 1))) v) (d : Nat) :
    ∀ j : Nat, j + d = r.length → Ev (fun k => channels_proper.l1 k 0 Y (Y.length : Int) z r (r.length : Int) (j : Int)) v := by
  induction d with
  | zero =>
    intro j hj
    exact Ev.step (fun k => by rw [channels_proper.l1]) (Ev.neg (by omega) hn)
  | succ d ih =>
    intro j hj
    have hlt : j < r.length := by omega
    obtain ⟨h2, h32, hs⟩ := hr _ (rdL_mem hlt)
    refine Ev.step (fun k => by rw [channels_proper.l1]) (Ev.pos (by omega) (Ev.pos (by omega) (Ev.pos (by omega) (Ev.bind (euclid_Distance_ok hs hs h2 h32 rfl) ?_))))
    refine Ev.neg (by simp) ?_
    rw [show mx 0 0 = 0 from rfl]
    rw [show wrap64 ((j : Int) + 1) = ((j + 1 : Nat) : Int) by rw [w64 (by omega) (by omega)]; omega]
    exact ih (j + 1) (by omega)
theorem proper_l0 (Y : List (List (List Int))) (z z' v : Int) (r : List (List Int)) (hz : 0 ≤ z) (hY : z < (Y.length : Int)) (hr0 : rd_L2 Y z = r) (hz' : wrap64 (z + 1) = z') (hr : ∀ x ∈ r, 2 ≤ x.length ∧ x.length ≤ 32 ∧ Smp x) (h4 : r.length ≤ 4) (hn : Ev (fun k => channels_proper.l0 k 0 Y (Y.length : Int) z') v) : Ev (fun k => channels_proper.l0 k 0 Y (Y.length : Int) z) v := by
  subst hr0
  subst hz'
  refine Ev.step (fun k => by rw [channels_proper.l0]) (Ev.pos hY (Ev.pos hz (Ev.pos hY ?_)))
  exact proper_l1 Y z _ hr h4 v hn _ 0 (Nat.zero_add _)
theorem proper_is {p q : List (List Int)} (hp : ∀ x ∈ p, 2 ≤ x.length ∧ x.length ≤ 32 ∧ Smp x) (hq : ∀ x ∈ q, 2 ≤ x.length ∧ x.length ≤ 32 ∧ Smp x) (h4 : p.length ≤ 4) (h4' : q.length ≤ 4) : Ev (fun k => channels_proper.f k p q) 0 := by
  have e2 : Ev (fun k => channels_proper.l0 k 0 [p, q] (([p, q] : List (List (List Int))).length : Int) 2) 0 := Ev.step (fun k => by rw [channels_proper.l0]) (Ev.neg (by simp) (Ev.now _))
  unfold channels_proper.f
  simp only [Option.bind_some]
  exact proper_l0 [p, q] 0 1 0 p (by omega) (by simp) rfl (w64 (by omega) (by omega)) hp h4 (proper_l0 [p, q] 1 2 0 q (by omega) (by simp) rfl (w64 (by omega) (by omega)) hq h4' e2)
theorem even_l0 (p : List (List Int)) (n : Nat) (hr : ∀ x ∈ p, x.length = n) (h4 : p.length ≤ 4) (d : Nat) : ∀ j : Nat, j + d = p.length → Ev (fun k => channels_even.l0 k p p (p.length : Int) (j : Int)) true := by
  induction d with
  | zero =>
    intro j hj
    exact Ev.step (fun k => by rw [channels_even.l0]) (Ev.neg (by omega) (Ev.now _))
  | succ d ih =>
    intro j hj
    have hlt : j < p.length := by omega
    have h1 := hr _ (rdL_mem hlt)
    have h0 := hr _ (rdL_mem (p := p) (i := 0) (by omega))
    refine Ev.step (fun k => by rw [channels_even.l0]) (Ev.pos (by omega) (Ev.pos (by omega) (Ev.pos (by omega) (Ev.pos (by omega) (Ev.pos ?_ ?_)))))
    · rw [h1]
      exact congrArg _ h0.symm
    · rw [show wrap64 ((j : Int) + 1) = ((j + 1 : Nat) : Int) by rw [w64 (by omega) (by omega)]; omega]
      exact ih (j + 1) (by omega)
theorem even_is {p : List (List Int)} {n : Nat} (hr : ∀ x ∈ p, x.length = n) (h4 : p.length ≤ 4) : Ev (fun k => channels_even.f k p) true := even_l0 p n hr h4 p.length 0 (by omega)
theorem check_is {p q : List (List Int)} {n m : Nat} {b : Int} (h : Fit p q n m b) : Ev (fun k => channels_check.f k p q b) 0 := by
  have n2 := h.n2
  have m2 := h.m2
  have b0 := h.b0
  have h0 := (h.pr _ (rdL_mem (p := p) (i := 0) (by have := h.p1; omega))).1
  have h1 := (h.qr _ (rdL_mem (p := q) (i := 0) (by have := h.p1; have := h.pq; omega))).1
  unfold channels_check.f
  refine Ev.neg (by omega) ?_
  rw [count_is h.p1 h.p4, count_is (by have := h.p1; have := h.pq; omega) (by have := h.p4; have := h.pq; omega)]
  simp only [Option.bind_some]
  refine Ev.pos ⟨trivial, trivial⟩ (Ev.bind (proper_is (fun x hx => by have := h.pr x hx; exact ⟨by omega, by omega, this.2⟩) (fun x hx => by have := h.qr x hx; exact ⟨by omega, by omega, this.2⟩) h.p4 (by have := h.p4; have := h.pq; omega)) (Ev.pos rfl ?_))
  refine Ev.bind (even_is (fun x hx => (h.pr x hx).1) h.p4) (Ev.bind (even_is (fun x hx => (h.qr x hx).1) (by have := h.p4; have := h.pq; omega)) (Ev.pos ⟨rfl, rfl, h.pq, ?_, ?_⟩ (Ev.now _)))
  · have := h.nm; simp only [Int.natCast_zero] at h0 h1; rw [h0, h1]; omega
  · have := h.nm; simp only [Int.natCast_zero] at h0 h1; rw [h0, h1]; omega
theorem okc_is {p q : List (List Int)} {n m : Nat} {b : Int} (h : Fit p q n m b) : X.OkC p q b := by
  have n2 := h.n2
  have m2 := h.m2
  have b0 := h.b0
  have h0 := (h.pr _ (chn_in (p := p) (i := 0) (by have := h.p1; omega))).1
  have h1 := (h.qr _ (chn_in (p := q) (i := 0) (by have := h.p1; have := h.pq; omega))).1
  have hn := h.nm
  refine ⟨⟨b0.1, b0.2, ?_⟩, ⟨h.p1, h.p4, h.pq⟩, ⟨by omega, by omega, by omega, by omega⟩, fun x hx => ⟨by rw [h0]; exact (h.pr x hx).1, (h.pr x hx).2⟩, fun x hx => ⟨by rw [h1]; exact (h.qr x hx).1, (h.qr x hx).2⟩⟩
  rw [h0, h1]
  unfold MathWp.near
  omega
theorem Apart_is {p q : List (List Int)} {n m : Nat} {b : Int} (h : Fit p q n m b) : Ev (fun k => channels_Apart.f k p q b) (X.apart p q b, 0) := by
  unfold channels_Apart.f
  refine Ev.bind (check_is h) (Ev.pos rfl ?_)
  rw [if_pos (okc_is h)]
  exact Ev.now _
theorem Together_is {p q : List (List Int)} {n m : Nat} {b : Int} (h : Fit p q n m b) : Ev (fun k => channels_Together.f k p q b) (X.together p q b, 0) := by
  unfold channels_Together.f
  refine Ev.bind (check_is h) (Ev.pos rfl ?_)
  rw [if_pos (okc_is h)]
  exact Ev.now _
theorem awake_is : Ev (fun k => shapesearchlaw16_awake.f k) true := Ev.of shapesearchlaw16_awake.mono (k := 60) (by decide +kernel)
theorem Fit.chp {p q : List (List Int)} {n m : Nat} {b : Int} (h : Fit p q n m b) {i : Nat} (hi : i < p.length) : (X.chn p i).length = n ∧ Smp (X.chn p i) := h.pr _ (chn_in hi)
theorem Fit.chq {p q : List (List Int)} {n m : Nat} {b : Int} (h : Fit p q n m b) {i : Nat} (hi : i < p.length) : (X.chn q i).length = m ∧ Smp (X.chn q i) := h.qr _ (chn_in (by rw [← h.pq]; exact hi))
theorem cst_nn {p q : List (List Int)} {n m : Nat} {b : Int} (h : Fit p q n m b) (k i j : Nat) : 0 ≤ X.cst p q k i j ∧ X.cst p q k i j ≤ 4000000 := X.cst_b (fun x hx => (h.pr x hx).2) (fun x hx => (h.qr x hx).2) k i j
theorem Fit.len0 {p q : List (List Int)} {n m : Nat} {b : Int} (h : Fit p q n m b) : (X.chn p 0).length = n ∧ (X.chn q 0).length = m := ⟨(h.chp (i := 0) (by have := h.p1; omega)).1, (h.chq (i := 0) (by have := h.p1; omega)).1⟩
theorem Fit.near {p q : List (List Int)} {n m : Nat} {b : Int} (h : Fit p q n m b) : MathWp.near b (n - 1) (m - 1) := by
  have := h.nm
  have := h.n2
  have := h.m2
  unfold MathWp.near
  omega
theorem tab_small {p q : List (List Int)} {n m : Nat} {b : Int} (h : Fit p q n m b) (k : Nat) : 0 ≤ MathWp.tab b (X.cst p q k) (n - 1) (m - 1) ∧ MathWp.tab b (X.cst p q k) (n - 1) (m - 1) ≤ 300000000 := by
  refine ⟨MathWp.tab_nn (fun i j => (cst_nn h k i j).1) _ _, ?_⟩
  have := MathWp.tab_bound (M := 4000000) h.b0.1 (by omega) (fun i j => (cst_nn h k i j).2) _ (n - 1) (m - 1) rfl h.near
  have := h.n2
  have := h.m2
  omega
theorem apSum_b {p q : List (List Int)} {n m : Nat} {b : Int} (h : Fit p q n m b) : ∀ k, 0 ≤ X.apSum p q b k ∧ X.apSum p q b k ≤ 300000000 * (k : Int)
  | 0 => by simp [X.apSum]
  | k + 1 => by
    have ih := apSum_b h k
    have := tab_small h k
    simp only [X.apSum]
    rw [h.len0.1, h.len0.2]
    omega
/-- One channel alone. -/
theorem one_cut (p : List (List Int)) (i : Nat) (h : i < p.length) : (p.take (i + 1)).drop i = [X.chn p i] := by
  rw [List.take_succ_eq_append_getElem h, List.drop_append_of_le_length (by rw [List.length_take]; omega), List.drop_eq_nil_of_le (by rw [List.length_take]; omega), List.nil_append]
  unfold X.chn
  rw [List.getD_eq_getElem?_getD, List.getElem?_eq_getElem h]
  rfl
theorem Fit.one {p q : List (List Int)} {n m : Nat} {b : Int} (h : Fit p q n m b) {i : Nat} (hi : i < p.length) : Fit [X.chn p i] [X.chn q i] n m b :=
  ⟨by simp, by simp, rfl, fun x hx => by rw [List.mem_singleton.1 hx]; exact h.chp hi, fun x hx => by rw [List.mem_singleton.1 hx]; exact h.chq hi, h.n2, h.m2, h.b0, h.nm⟩
theorem apart_one {p q : List (List Int)} {n m : Nat} {b : Int} (h : Fit p q n m b) {i : Nat} (hi : i < p.length) : X.apart [X.chn p i] [X.chn q i] b = MathWp.tab b (X.cst p q i) (n - 1) (m - 1) := by
  have h1 := h.one hi
  show X.apSum [X.chn p i] [X.chn q i] b 1 = _
  simp only [X.apSum]
  rw [h1.len0.1, h1.len0.2, Int.zero_add]
  rfl
/-! ### products, variances, gaps -/
theorem normal_product_l0 (x y : List Int) (hx : Smp x) (hy : Smp y) (hl : x.length = y.length) (hn : x.length ≤ 32) (d : Nat) :
    ∀ (i : Nat) (p s t : Int), i + d = x.length → -1000000 * i ≤ p → p ≤ 1000000 * i → -1000 * i ≤ s → s ≤ 1000 * i → -1000 * i ≤ t → t ≤ 1000 * i →
      Ev (fun k => normal_product.l0 k x y p s t x (x.length : Int) (i : Int)) ((x.length : Int) * (p + dot (x.drop i) (y.drop i)) - (s + sm (x.drop i)) * (t + sm (y.drop i))) := by
  induction d with
  | zero =>
    intro i p s t hi p0 p1 s0 s1 t0 t1
    refine Ev.step (fun k => by rw [normal_product.l0]) (Ev.neg (by omega) ?_)
    rw [List.drop_eq_nil_of_le (by omega), List.drop_eq_nil_of_le (by omega)]
    simp only [dot, sm, Int.add_zero]
    have b1 := mul_abs (u := (x.length : Int)) (v := p) (A := 32) (B := 32000000) (by omega) (by omega) (by omega) (by omega) (by omega) (by omega)
    have b2 := mul_abs (u := s) (v := t) (A := 32000) (B := 32000) (by omega) (by omega) (by omega) (by omega) (by omega) (by omega)
    rw [w64 (n := (x.length : Int) * p) (by omega) (by omega), w64 (n := s * t) (by omega) (by omega), w64 (n := (x.length : Int) * p - s * t) (by omega) (by omega)]
    exact Ev.now _
  | succ d ih =>
    intro i p s t hi p0 p1 s0 s1 t0 t1
    have hlt : i < x.length := by omega
    have hlt' : i < y.length := by omega
    have bx := hx x[i] (List.getElem_mem _)
    have by_ := hy y[i] (List.getElem_mem _)
    refine Ev.step (fun k => by rw [normal_product.l0]) (Ev.pos (by omega) (Ev.pos (by omega) (Ev.pos (by omega) (Ev.pos (by omega) ?_))))
    have hi1 : i + 1 + d = x.length := by omega
    have hc : ((i + 1 : Nat) : Int) = (i : Int) + 1 := by omega
    have hi32 : i ≤ 32 := by omega
    rw [w_succ (by omega), rd_nat x i hlt, rd_nat y i hlt', List.drop_eq_getElem_cons hlt, List.drop_eq_getElem_cons hlt']
    simp only [dot, sm]
    generalize x[i] = u at *
    generalize y[i] = v at *
    have b1 := mul_abs (u := u) (v := v) (A := 1000) (B := 1000) (by omega) (by omega) (by omega) (by omega) (by omega) (by omega)
    have := ih (i + 1) (p + u * v) (s + u) (t + v) hi1 (by rw [hc]; omega) (by rw [hc]; omega) (by rw [hc]; omega) (by rw [hc]; omega) (by rw [hc]; omega) (by rw [hc]; omega)
    rw [w64 (n := u * v) (by omega) (by omega), w64 (n := p + u * v) (by omega) (by omega), w64 (n := s + u) (by omega) (by omega), w64 (n := t + v) (by omega) (by omega)]
    rw [Int.add_assoc, Int.add_assoc, Int.add_assoc] at this
    exact this
theorem normal_product_is {x y : List Int} (hx : Smp x) (hy : Smp y) (hl : x.length = y.length) (hn : x.length ≤ 32) : Ev (fun k => normal_product.f k x y) (cov x y) := by
  have := normal_product_l0 x y hx hy hl hn x.length 0 0 0 0 (by omega) (by omega) (by omega) (by omega) (by omega) (by omega) (by omega)
  simp only [List.drop_zero, Int.zero_add] at this
  exact this
/-! ### ratios -/
theorem ratio_divisor_l0 (b : Nat) : ∀ a : Nat, Ev (fun k => ratio_divisor.l0 k (a : Int) (b : Int)) (Nat.gcd a b : Int) := by
  induction b using Nat.strongRecOn with
  | _ b ih =>
    intro a
    refine Ev.step (fun k => by rw [ratio_divisor.l0]) ?_
    by_cases h : b = 0
    · subst h
      rw [Nat.gcd_zero_right]
      exact Ev.pos rfl (Ev.now _)
    · refine Ev.neg (by omega) ?_
      have e1 : Int.tmod (a : Int) (b : Int) = ((a % b : Nat) : Int) := by rw [Int.tmod_eq_emod_of_nonneg (by omega)]; rfl
      have e2 : Nat.gcd a b = Nat.gcd b (a % b) := by rw [Nat.gcd_comm a b, Nat.gcd_rec b a, Nat.gcd_comm]
      rw [e1, e2]
      exact ih (a % b) (Nat.mod_lt _ (by omega)) b
theorem ratio_divisor_is (a b : Int) (ha : 0 ≤ a) (hb : 0 ≤ b) : Ev (fun k => ratio_divisor.f k a b) (gcdz a b) := by
  obtain ⟨m, rfl⟩ := Int.eq_ofNat_of_zero_le ha
  obtain ⟨n, rfl⟩ := Int.eq_ofNat_of_zero_le hb
  have := ratio_divisor_l0 n m
  unfold gcdz
  rw [Int.toNat_natCast, Int.toNat_natCast]
  exact this
theorem ratio_within_is (p q : Int) : ratio_within.f p q = some (decide (0 ≤ p ∧ p ≤ 2305843009213693952 ∧ 1 ≤ q ∧ q ≤ 1152921504606846976)) := by
  unfold ratio_within.f
  by_cases h1 : p ≥ 0
  · rw [if_pos h1]
    by_cases h2 : p ≤ 2305843009213693952
    · rw [if_pos h2]
      by_cases h3 : q ≥ 1
      · rw [if_pos h3]
        congr 1
        rw [decide_eq_decide]
        omega
      · rw [if_neg h3, decide_eq_false (by omega)]
    · rw [if_neg h2, decide_eq_false (by omega)]
  · rw [if_neg h1, decide_eq_false (by omega)]
theorem ratio_Make_is (n d : Int) (hn : -9223372036854775808 ≤ n) (hn' : n ≤ 9223372036854775807) (hd : -9223372036854775808 ≤ d) (hd' : d ≤ 9223372036854775807) : Ev (fun k => ratio_Make.f k n d) (mkr n d) := by
  have j0 : ∀ b : Bool, (b = true ↔ n < 0 ∨ d < 1) → Ev (fun k => ratio_Make.j0 k n d b) (mkr n d) := by
    intro b hb
    refine Ev.step (fun k => by rw [ratio_Make.j0]) ?_
    unfold mkr
    cases b with
    | true =>
      rw [if_pos (hb.1 rfl)]
      exact Ev.pos rfl (Ev.now _)
    | false =>
      have hc : ¬ (n < 0 ∨ d < 1) := fun h => by have := hb.2 h; cases this
      rw [if_neg hc]
      have hg := gcdz_pos (n := n) (d := d) (by omega)
      refine Ev.neg (by simp) (Ev.bind (ratio_divisor_is n d (by omega) (by omega)) (Ev.neg (by omega) ?_))
      have b1 := Int.ediv_le_self (gcdz n d) (show 0 ≤ n by omega)
      have b2 := Int.ediv_le_self (gcdz n d) (show 0 ≤ d by omega)
      have b3 := Int.ediv_nonneg (show 0 ≤ n by omega) (show 0 ≤ gcdz n d by omega)
      have b4 := Int.ediv_nonneg (show 0 ≤ d by omega) (show 0 ≤ gcdz n d by omega)
      have e1 : wrap64 (Int.tdiv n (gcdz n d)) = n / gcdz n d := by rw [Int.tdiv_eq_ediv_of_nonneg (by omega), w64 (by omega) (by omega)]
      have e2 : wrap64 (Int.tdiv d (gcdz n d)) = d / gcdz n d := by rw [Int.tdiv_eq_ediv_of_nonneg (by omega), w64 (by omega) (by omega)]
      have b5 : 1 ≤ d / gcdz n d := by
        have hdv : gcdz n d ∣ d := by
          unfold gcdz
          have := Int.natCast_dvd_natCast.2 (Nat.gcd_dvd_right n.toNat d.toNat)
          rwa [Int.toNat_of_nonneg (show 0 ≤ d by omega)] at this
        have := Int.ediv_mul_cancel hdv
        by_cases h0 : d / gcdz n d = 0
        · rw [h0] at this
          omega
        · omega
      rw [e1, e2, ratio_within_is]
      refine Ev.bind (Ev.now _) ?_
      by_cases hw : n / gcdz n d ≤ 2305843009213693952 ∧ d / gcdz n d ≤ 1152921504606846976
      · rw [if_pos hw]
        exact Ev.pos (decide_eq_true ⟨b3, hw.1, b5, hw.2⟩) (Ev.now _)
      · rw [if_neg hw]
        exact Ev.neg (fun h => hw ⟨(of_decide_eq_true h).2.1, (of_decide_eq_true h).2.2.2⟩) (Ev.now _)
  unfold ratio_Make.f
  by_cases h : n < 0
  · exact Ev.pos h (j0 true ⟨fun _ => .inl h, fun _ => rfl⟩)
  · refine Ev.neg h (j0 _ ⟨fun hc => .inr (of_decide_eq_true hc), fun hc => decide_eq_true (by omega)⟩)
/-! ### variances and gaps -/
theorem window_Variance_is {m s q : Int} (h1 : 1 ≤ m) (h2 : m ≤ 32) (s0 : -1000 * m ≤ s) (s1 : s ≤ 1000 * m) (q0 : 0 ≤ q) (q1 : q ≤ 1000000 * m) (hd : 0 ≤ m * q - s * s) : window_Variance.f m s q = some (m * q - s * s) := by
  have e1 : wrap64 ((-1000) * m) = -1000 * m := w64 (by omega) (by omega)
  have e2 : wrap64 (1000 * m) = 1000 * m := w64 (by omega) (by omega)
  have e3 : wrap64 (1000000 * m) = 1000000 * m := w64 (by omega) (by omega)
  have b1 := mul_abs (u := m) (v := q) (A := 32) (B := 32000000) (by omega) (by omega) (by omega) (by omega) (by omega) (by omega)
  have b2 := mul_abs (u := s) (v := s) (A := 32000) (B := 32000) (by omega) (by omega) (by omega) (by omega) (by omega) (by omega)
  have e4 : wrap64 (m * q) = m * q := w64 (by omega) (by omega)
  have e5 : wrap64 (s * s) = s * s := w64 (by omega) (by omega)
  have e6 : wrap64 (m * q - s * s) = m * q - s * s := w64 (by omega) (by omega)
  unfold window_Variance.f
  rw [e1, e2, e3, e4, e5, e6, if_neg (by omega), if_neg (by omega), if_neg (by omega), if_neg (by omega), if_neg (by omega), if_neg (by omega)]
  unfold mx
  split
  · congr 1 <;> omega
  · congr 1 <;> omega
theorem normal_variance_l0 (x : List Int) (hx : Smp x) (h1 : 1 ≤ x.length) (hn : x.length ≤ 32) (d : Nat) :
    ∀ (i : Nat) (s q : Int), i + d = x.length → -1000 * i ≤ s → s ≤ 1000 * i → 0 ≤ q → q ≤ 1000000 * i → 0 ≤ (x.length : Int) * (q + dot (x.drop i) (x.drop i)) - (s + sm (x.drop i)) * (s + sm (x.drop i)) →
      Ev (fun k => normal_variance.l0 k x (x.length : Int) (i : Int) (x.length : Int) s q) ((x.length : Int) * (q + dot (x.drop i) (x.drop i)) - (s + sm (x.drop i)) * (s + sm (x.drop i))) := by
  induction d with
  | zero =>
    intro i s q hi s0 s1 q0 q1 hd
    refine Ev.step (fun k => by rw [normal_variance.l0]) (Ev.neg (by omega) ?_)
    rw [show x.drop i = [] from List.drop_eq_nil_of_le (by omega)] at hd ⊢
    simp only [dot, sm, Int.add_zero] at hd ⊢
    rw [window_Variance_is (by omega) (by omega) (by omega) (by omega) q0 (by omega) hd]
    exact Ev.bind (Ev.now _) (Ev.now _)
  | succ d ih =>
    intro i s q hi s0 s1 q0 q1 hd
    have hlt : i < x.length := by omega
    have bx := hx x[i] (List.getElem_mem _)
    have hi1 : i + 1 + d = x.length := by omega
    have hc : ((i + 1 : Nat) : Int) = (i : Int) + 1 := by omega
    refine Ev.step (fun k => by rw [normal_variance.l0]) (Ev.pos (by omega) (Ev.pos (by omega) (Ev.pos (by omega) ?_)))
    have hi32 : i ≤ 32 := by omega
    rw [w_succ (by omega), rd_nat x i hlt]
    rw [List.drop_eq_getElem_cons hlt] at hd ⊢
    simp only [dot, sm] at hd ⊢
    generalize x[i] = u at *
    have b1 := mul_abs (u := u) (v := u) (A := 1000) (B := 1000) (by omega) (by omega) (by omega) (by omega) (by omega) (by omega)
    have b0 := sqnn u
    have := ih (i + 1) (s + u) (q + u * u) hi1 (by rw [hc]; omega) (by rw [hc]; omega) (by omega) (by rw [hc]; omega) (by rw [Int.add_assoc, Int.add_assoc]; exact hd)
    rw [w64 (n := u * u) (by omega) (by omega), w64 (n := q + u * u) (by omega) (by omega), w64 (n := s + u) (by omega) (by omega)]
    rw [Int.add_assoc, Int.add_assoc] at this
    exact this
theorem normal_variance_is {x : List Int} (hx : Smp x) (h1 : 1 ≤ x.length) (hn : x.length ≤ 32) : Ev (fun k => normal_variance.f k x) (cov x x) := by
  have nn := cov_self_nonneg x
  unfold cov at nn
  have := normal_variance_l0 x hx h1 hn x.length 0 0 0 (by omega) (by omega) (by omega) (by omega) (by omega) (by simpa using nn)
  simp only [List.drop_zero, Int.zero_add] at this
  exact this
theorem eta3 (r : Int × Int × Int) : (r.1, r.2.1, r.2.2) = r := rfl
theorem normal_gap_is {x y : List Int} (hx : Smp x) (hy : Smp y) (h1 : 1 ≤ x.length) (hn : x.length ≤ 32) (hl : x.length = y.length) : Ev (fun k => normal_gap.f k x y) (gapv x y) := by
  have bx := cov_bound hx hn
  have by_ := cov_bound hy (by omega)
  have nx := cov_self_nonneg x
  have ny := cov_self_nonneg y
  have cc := cov_cs hl
  have b1 := mul_le4 nx bx ny by_
  have b2 := Int.mul_nonneg nx ny
  have b3 := sqnn (cov x y)
  have j0 : ∀ b : Bool, (b = true ↔ cov x x = 0 ∧ cov y y = 0) → Ev (fun k => normal_gap.j0 k x y (cov x x) (cov y y) b) (gapv x y) := by
    intro b hb
    refine Ev.step (fun k => by rw [normal_gap.j0]) ?_
    unfold gapv gapn
    cases b with
    | true =>
      rw [if_pos (hb.1 rfl)]
      exact Ev.pos rfl (Ev.bind (ratio_Make_is 0 1 (by omega) (by omega) (by omega) (by omega)) (Ev.now _))
    | false =>
      have hc : ¬ (cov x x = 0 ∧ cov y y = 0) := fun h => by have := hb.2 h; cases this
      rw [if_neg hc]
      refine Ev.neg (by simp) ?_
      by_cases h0 : cov x x = 0
      · rw [if_pos (.inl h0)]
        exact Ev.pos h0 (Ev.bind (ratio_Make_is 1 1 (by omega) (by omega) (by omega) (by omega)) (Ev.now _))
      refine Ev.neg h0 ?_
      by_cases h2 : cov y y = 0
      · rw [if_pos (.inr h2)]
        exact Ev.pos h2 (Ev.bind (ratio_Make_is 1 1 (by omega) (by omega) (by omega) (by omega)) (Ev.now _))
      refine Ev.neg h2 (Ev.bind (normal_product_is hx hy hl hn) ?_)
      rw [if_neg (by omega), w64 (n := cov x x * cov y y) (by omega) (by omega), w64 (n := cov x y * cov x y) (by omega) (by omega), w64 (n := cov x x * cov y y + cov x y * cov x y) (by omega) (by omega), w64 (n := cov x x * cov y y - cov x y * cov x y) (by omega) (by omega)]
      by_cases h3 : cov x y < 0
      · rw [if_pos h3]
        exact Ev.pos h3 (Ev.bind (ratio_Make_is _ _ (by omega) (by omega) (by omega) (by omega)) (Ev.now _))
      · rw [if_neg h3]
        exact Ev.neg h3 (Ev.bind (ratio_Make_is _ _ (by omega) (by omega) (by omega) (by omega)) (Ev.now _))
  unfold normal_gap.f
  refine Ev.bind (normal_variance_is hx h1 hn) (Ev.bind (normal_variance_is hy (by omega) (by omega)) ?_)
  by_cases h : cov x x = 0
  · refine Ev.pos h (j0 _ ?_)
    simp [h]
  · refine Ev.neg h (j0 _ ?_)
    simp [h]
theorem normal_Gap_ok {x y : List Int} (hx : Smp x) (hy : Smp y) (h2 : 2 ≤ x.length) (h32 : x.length ≤ 32) (hl : x.length = y.length) : Ev (fun k => normal_Gap.f k x y) (gapv x y) := by
  unfold normal_Gap.f
  exact Ev.bind (euclid_Distance_ok hx hy h2 h32 hl) (Ev.pos rfl (Ev.bind (normal_gap_is hx hy (by omega) h32 hl) (Ev.now _)))
/-! ### windows read backwards -/
/-! ### the gap's range -/
theorem gapn_facts {v w c : Int} (v0 : 0 ≤ v) (v1 : v ≤ 1024000000) (w0 : 0 ≤ w) (w1 : w ≤ 1024000000) (hc : c * c ≤ v * w) :
    ∃ p q : Int, gapn v w c = (p, q, 0) ∧ RatV p q ∧ p ≤ 2 * q ∧ (p = q ↔ (c = 0 ∧ (v ≠ 0 ∨ w ≠ 0))) ∧ (p < q ↔ (0 < c ∨ (v = 0 ∧ w = 0))) := by
  have cc := sqnn c
  have hvw : v * w ≤ 1024000000 * 1024000000 := Int.mul_le_mul v1 w1 w0 (by omega)
  by_cases hv : v = 0
  · have hc0 : c = 0 := by
      rw [hv, Int.zero_mul] at hc
      exact (Int.mul_eq_zero.1 (show c * c = 0 by omega)).elim id id
    by_cases hw : w = 0
    · refine ⟨0, 1, ?_, ⟨by decide, by decide, by decide, by decide, by decide⟩, by decide, ?_, ?_⟩
      · unfold gapn
        rw [if_pos ⟨hv, hw⟩]
        rfl
      · exact ⟨fun h => by omega, fun h => by omega⟩
      · exact ⟨fun _ => .inr ⟨hv, hw⟩, fun _ => by decide⟩
    · refine ⟨1, 1, ?_, ⟨by decide, by decide, by decide, by decide, by decide⟩, by decide, ?_, ?_⟩
      · unfold gapn
        rw [if_neg (fun h => hw h.2), if_pos (.inl hv)]
        rfl
      · exact ⟨fun _ => ⟨hc0, .inr hw⟩, fun _ => rfl⟩
      · exact ⟨fun h => by omega, fun h => by omega⟩
  · by_cases hw : w = 0
    · have hc0 : c = 0 := by
        rw [hw, Int.mul_zero] at hc
        exact (Int.mul_eq_zero.1 (show c * c = 0 by omega)).elim id id
      refine ⟨1, 1, ?_, ⟨by decide, by decide, by decide, by decide, by decide⟩, by decide, ?_, ?_⟩
      · unfold gapn
        rw [if_neg (fun h => hv h.1), if_pos (.inr hw)]
        rfl
      · exact ⟨fun _ => ⟨hc0, .inl hv⟩, fun _ => rfl⟩
      · exact ⟨fun h => by omega, fun h => by omega⟩
    · have hpos : 0 < v * w := Int.mul_pos (by omega) (by omega)
      have e0 : gapn v w c = if c < 0 then mkr (v * w + c * c) (v * w) else mkr (v * w - c * c) (v * w) := by
        unfold gapn
        rw [if_neg (fun h => hv h.1), if_neg (fun h => h.elim hv hw)]
      have cpos : c ≠ 0 → 0 < c * c := fun h => by
        have : c * c ≠ 0 := fun g => h ((Int.mul_eq_zero.1 g).elim id id)
        omega
      rw [e0]
      by_cases hcn : c < 0
      · rw [if_pos hcn]
        obtain ⟨p, q, g, e1, e2, g1, e3, e4⟩ := mkr_ok (n := v * w + c * c) (d := v * w) (by omega) (by omega) (by omega) (by omega)
        have hcp := cpos (by omega)
        have hlt : q < p := Int.lt_of_mul_lt_mul_right (a := g) (by omega) (by omega)
        have hle : p ≤ 2 * q := Int.le_of_mul_le_mul_right (a := g) (by rw [Int.mul_assoc]; omega) (by omega)
        exact ⟨p, q, e1, e2, hle, ⟨fun h => by omega, fun h => by omega⟩, ⟨fun h => by omega, fun h => by omega⟩⟩
      · rw [if_neg hcn]
        obtain ⟨p, q, g, e1, e2, g1, e3, e4⟩ := mkr_ok (n := v * w - c * c) (d := v * w) (by omega) (by omega) (by omega) (by omega)
        by_cases hz : c = 0
        · have hcz : c * c = 0 := by rw [hz]; rfl
          have hpq : p = q := Int.eq_of_mul_eq_mul_right (show g ≠ 0 by omega) (by omega)
          exact ⟨p, q, e1, e2, by have := e2.1; omega, ⟨fun _ => ⟨hz, .inl hv⟩, fun _ => hpq⟩, ⟨fun h => by omega, fun h => by omega⟩⟩
        · have hcp := cpos hz
          have hlt : p < q := Int.lt_of_mul_lt_mul_right (a := g) (by omega) (by omega)
          exact ⟨p, q, e1, e2, by have := e2.1; omega, ⟨fun h => by omega, fun h => by omega⟩, ⟨fun _ => .inl (by omega), fun _ => hlt⟩⟩
theorem ref01_common_l0 (b : Nat) : ∀ a : Nat, Ev (fun k => shapesearchref01_common.l0 k (a : Int) (b : Int)) (Nat.gcd a b : Int) := by
  induction b using Nat.strongRecOn with
  | _ b ih =>
    intro a
    refine Ev.step (fun k => by rw [shapesearchref01_common.l0]) ?_
    by_cases h : b = 0
    · subst h
      rw [Nat.gcd_zero_right]
      exact Ev.neg (by omega) (Ev.now _)
    · refine Ev.pos (by omega) (Ev.neg (by omega) ?_)
      have e1 : Int.tmod (a : Int) (b : Int) = ((a % b : Nat) : Int) := by rw [Int.tmod_eq_emod_of_nonneg (by omega)]; rfl
      have e2 : Nat.gcd a b = Nat.gcd b (a % b) := by rw [Nat.gcd_comm a b, Nat.gcd_rec b a, Nat.gcd_comm]
      rw [e1, e2]
      exact ih (a % b) (Nat.mod_lt _ (by omega)) b
theorem ref01_common_is (a b : Int) (ha : 0 ≤ a) (hb : 0 ≤ b) : Ev (fun k => shapesearchref01_common.f k a b) (gcdz a b) := by
  obtain ⟨m, rfl⟩ := Int.eq_ofNat_of_zero_le ha
  obtain ⟨n, rfl⟩ := Int.eq_ofNat_of_zero_le hb
  have := ref01_common_l0 n m
  unfold gcdz
  rw [Int.toNat_natCast, Int.toNat_natCast]
  exact this
theorem ref01_Valid_ok {p q : Int} (h : RatV p q) : Ev (fun k => shapesearchref01_Valid.f k p q) true := by
  obtain ⟨h1, h2, h3, h4, h5⟩ := h
  unfold shapesearchref01_Valid.f
  refine Ev.pos h1 (Ev.pos h2 (Ev.pos h3 (Ev.pos h4 (Ev.bind (ref01_common_is p q h1 (by omega)) ?_))))
  rw [h5]
  exact Ev.now _
theorem ref01_order_is (n : Nat) : ∀ a b c d : Int, (b + d).toNat ≤ n → 0 ≤ a → a ≤ 9223372036854775807 → 1 ≤ b → b ≤ 9223372036854775807 → 0 ≤ c → c ≤ 9223372036854775807 → 1 ≤ d → d ≤ 9223372036854775807 → Ev (fun k => shapesearchref01_order.f k a b c d) (cmpr a b c d) := by
  induction n with
  | zero => intro a b c d h; omega
  | succ n ih =>
    intro a b c d hn ha ha' hb hb' hc hc' hd hd'
    have q1 := Int.ediv_le_self b ha
    have q2 := Int.ediv_le_self d hc
    have q3 := Int.ediv_nonneg ha (show 0 ≤ b by omega)
    have q4 := Int.ediv_nonneg hc (show 0 ≤ d by omega)
    have e1 : wrap64 (Int.tdiv a b) = a / b := by rw [Int.tdiv_eq_ediv_of_nonneg ha, w64 (by omega) (by omega)]
    have e2 : wrap64 (Int.tdiv c d) = c / d := by rw [Int.tdiv_eq_ediv_of_nonneg hc, w64 (by omega) (by omega)]
    have e3 : Int.tmod a b = a % b := Int.tmod_eq_emod_of_nonneg ha
    have e4 : Int.tmod c d = c % d := Int.tmod_eq_emod_of_nonneg hc
    have m1 := Int.emod_nonneg a (show b ≠ 0 by omega)
    have m2 := Int.emod_lt_of_pos a (show 0 < b by omega)
    have m3 := Int.emod_nonneg c (show d ≠ 0 by omega)
    have m4 := Int.emod_lt_of_pos c (show 0 < d by omega)
    have d1 := Int.mul_ediv_add_emod a b
    have d2 := Int.mul_ediv_add_emod c d
    refine Ev.step (fun k => by rw [shapesearchref01_order.f]) (Ev.neg (by omega) (Ev.neg (by omega) ?_))
    rw [e1, e2, e3, e4]
    by_cases hq : a / b = c / d
    · refine Ev.pos hq ?_
      have key : cmpr a b c d = cmpr d (c % d) b (a % b) := cmpr_eq (q := a / b) (by omega) (by rw [hq]; omega)
      have j0 : ∀ z : Bool, (z = true ↔ a % b = 0 ∧ c % d = 0) → Ev (fun k => shapesearchref01_order.j0 k (a % b) b (c % d) d z) (cmpr a b c d) := by
        intro z hz
        refine Ev.step (fun k => by rw [shapesearchref01_order.j0]) ?_
        rw [key]
        cases z with
        | true =>
          obtain ⟨z1, z2⟩ := hz.1 rfl
          rw [z1, z2]
          have e : cmpr d 0 b 0 = 0 := by simp [cmpr]
          rw [e]
          exact Ev.pos rfl (Ev.now _)
        | false =>
          refine Ev.neg (by simp) ?_
          by_cases z1 : a % b = 0
          · have z2 : ¬ c % d = 0 := fun h => by have := hz.2 ⟨z1, h⟩; cases this
            have : 0 < b * (c % d) := Int.mul_pos (by omega) (by omega)
            have e : cmpr d (c % d) b (a % b) = -1 := by unfold cmpr; rw [z1, Int.mul_zero, if_pos this]
            rw [e]
            exact Ev.pos z1 (Ev.now _)
          · refine Ev.neg z1 ?_
            by_cases z2 : c % d = 0
            · have : 0 < d * (a % b) := Int.mul_pos (by omega) (by omega)
              have e : cmpr d (c % d) b (a % b) = 1 := by unfold cmpr; rw [z2, Int.mul_zero, if_neg (by omega), if_neg (by omega)]
              rw [e]
              exact Ev.pos z2 (Ev.now _)
            · exact Ev.neg z2 (Ev.bind (ih d (c % d) b (a % b) (by omega) (by omega) (by omega) (by omega) (by omega) (by omega) (by omega) (by omega) (by omega)) (Ev.now _))
      by_cases z1 : a % b = 0
      · refine Ev.pos z1 (j0 _ ⟨fun h => ⟨z1, eq_of_beq h⟩, fun h => by rw [h.2]; rfl⟩)
      · exact Ev.neg z1 (j0 false ⟨fun h => absurd h Bool.false_ne_true, fun h => absurd h.1 z1⟩)
    · refine Ev.neg hq ?_
      by_cases hlt : a / b < c / d
      · rw [cmpr_lt hb hd hlt]
        exact Ev.pos hlt (Ev.now _)
      · rw [cmpr_gt hb hd (by omega)]
        exact Ev.neg hlt (Ev.now _)
theorem ref01_Cmp_is {a b c d : Int} (h : RatV a b) (h' : RatV c d) : Ev (fun k => shapesearchref01_Cmp.f k a b c d) (cmpr a b c d) := by
  unfold shapesearchref01_Cmp.f
  refine Ev.bind (ref01_Valid_ok h) (Ev.pos rfl (Ev.bind (ref01_Valid_ok h') (Ev.pos rfl (Ev.bind (ref01_order_is (b + d).toNat a b c d (Nat.le_refl _) h.1 ?_ h.2.2.1 ?_ h'.1 ?_ h'.2.2.1 ?_) (Ev.now _)))))
  · have := h.2.1; omega
  · have := h.2.2.2.1; omega
  · have := h'.2.1; omega
  · have := h'.2.2.2.1; omega
/-! ### products of 128 bits, and ratios compared by them -/
theorem wrap_u64 (n : Int) : IntKind.u64.wrap n = n % 18446744073709551616 := by simp [IntKind.wrap, IntKind.bits, IntKind.signed]
theorem wraps_u64 (n : Int) (h0 : 0 ≤ n) (h1 : n < 2 ^ 64) : IntKind.u64.wrap n = n := by rw [wrap_u64]; omega
theorem and32 {x : Int} (h0 : 0 ≤ x) (h1 : x < 18446744073709551616) : Go.bits .and .u64 x 4294967295 = x % 4294967296 := bits_mask .u64 64 (by decide) wraps_u64 32 (by decide) x h0 h1
theorem mul_bd {a b A B : Int} (h0 : 0 ≤ a) (h1 : a ≤ A) (h2 : 0 ≤ b) (h3 : b ≤ B) : 0 ≤ a * b ∧ a * b ≤ A * B := ⟨Int.mul_nonneg h0 h2, Int.mul_le_mul h1 h3 h2 (by omega)⟩
theorem Mul64_is {a b : Int} (ha : 0 ≤ a) (ha' : a ≤ 4611686018427387903) (hb : 0 ≤ b) (hb' : b ≤ 4611686018427387903) : bits_Mul64.f a b = some (a * b / 18446744073709551616, a * b % 18446744073709551616) := by
  unfold bits_Mul64.f
  rw [and32 ha (by omega), and32 hb (by omega)]
  obtain ⟨a1, e1⟩ : ∃ a1, a1 = a / 4294967296 := ⟨_, rfl⟩
  obtain ⟨a0, e0⟩ : ∃ a0, a0 = a % 4294967296 := ⟨_, rfl⟩
  obtain ⟨b1, f1⟩ : ∃ b1, b1 = b / 4294967296 := ⟨_, rfl⟩
  obtain ⟨b0, f0⟩ : ∃ b0, b0 = b % 4294967296 := ⟨_, rfl⟩
  rw [← e1, ← e0, ← f1, ← f0]
  have ea : a = a1 * 4294967296 + a0 := by omega
  have eb : b = b1 * 4294967296 + b0 := by omega
  have hab : a * b = (a1 * b1) * 18446744073709551616 + ((a1 * b0) + (a0 * b1)) * 4294967296 + a0 * b0 := by
    rw [ea, eb, Int.add_mul, Int.mul_add, Int.mul_add]
    have g1 : a1 * 4294967296 * (b1 * 4294967296) = (a1 * b1) * 18446744073709551616 := by rw [Int.mul_assoc a1, Int.mul_left_comm 4294967296 b1, ← Int.mul_assoc a1 b1]; rfl
    have g2 : a1 * 4294967296 * b0 = (a1 * b0) * 4294967296 := by rw [Int.mul_assoc, Int.mul_comm 4294967296 b0, ← Int.mul_assoc]
    have g3 : a0 * (b1 * 4294967296) = (a0 * b1) * 4294967296 := by rw [Int.mul_assoc]
    rw [g1, g2, g3, Int.add_mul]
    omega
  have p11 := mul_bd (a := a1) (b := b1) (A := 1073741823) (B := 1073741823) (by omega) (by omega) (by omega) (by omega)
  have p10 := mul_bd (a := a1) (b := b0) (A := 1073741823) (B := 4294967295) (by omega) (by omega) (by omega) (by omega)
  have p01 := mul_bd (a := a0) (b := b1) (A := 4294967295) (B := 1073741823) (by omega) (by omega) (by omega) (by omega)
  have p00 := mul_bd (a := a0) (b := b0) (A := 4294967295) (B := 4294967295) (by omega) (by omega) (by omega) (by omega)
  rw [wrap_u64 (a * b), hab]
  clear hab ea eb e1 e0 f1 f0 ha ha' hb hb'
  generalize a1 * b1 = x11 at *
  generalize a1 * b0 = x10 at *
  generalize a0 * b1 = x01 at *
  generalize a0 * b0 = x00 at *
  rw [wraps_u64 x11 (by omega) (by omega), wraps_u64 x10 (by omega) (by omega), wraps_u64 x01 (by omega) (by omega), wraps_u64 x00 (by omega) (by omega)]
  rw [wraps_u64 (x10 + x00 / 4294967296) (by omega) (by omega), and32 (by omega) (by omega)]
  rw [wraps_u64 (x11 + (x10 + x00 / 4294967296) / 4294967296) (by omega) (by omega), wraps_u64 ((x10 + x00 / 4294967296) % 4294967296 + x01) (by omega) (by omega)]
  rw [wraps_u64 _ (by omega) (by omega)]
  congr 2
  omega
theorem ratio_Valid_ok {p q : Int} (h : RatV p q) : Ev (fun k => ratio_Valid.f k p q) true := by
  obtain ⟨h1, h2, h3, h4, h5⟩ := h
  unfold ratio_Valid.f
  rw [ratio_within_is, decide_eq_true ⟨h1, h2, h3, h4⟩]
  simp only [Option.bind_some]
  refine Ev.pos trivial (Ev.bind (ratio_divisor_is p q h1 (by omega)) ?_)
  rw [h5]
  exact Ev.now _
theorem lex_is {x y : Int} (hx : 0 ≤ x) (hy : 0 ≤ y) : (x < y ↔ (x / 18446744073709551616 < y / 18446744073709551616 ∨ (x / 18446744073709551616 = y / 18446744073709551616 ∧ x % 18446744073709551616 < y % 18446744073709551616))) ∧ (x = y ↔ (x / 18446744073709551616 = y / 18446744073709551616 ∧ x % 18446744073709551616 = y % 18446744073709551616)) := by omega
theorem ratio_Cmp_is {a b c d : Int} (h : RatV a b) (h' : RatV c d) : Ev (fun k => ratio_Cmp.f k a b c d) (cmpr a b c d) := by
  have v1 := ratio_Valid_ok h
  have v2 := ratio_Valid_ok h'
  obtain ⟨h1, h2, h3, h4, h5⟩ := h
  obtain ⟨k1, k2, k3, k4, k5⟩ := h'
  have n1 : 0 ≤ a * d := Int.mul_nonneg h1 (by omega)
  have n2 : 0 ≤ c * b := Int.mul_nonneg k1 (by omega)
  obtain ⟨l1, l2⟩ := lex_is n1 n2
  unfold ratio_Cmp.f
  refine Ev.bind v1 (Ev.pos rfl (Ev.bind v2 ?_))
  refine Ev.step (fun k => by rw [ratio_Cmp.j0]) (Ev.neg (by simp) ?_)
  rw [wraps_u64 a (by omega) (by omega), wraps_u64 b (by omega) (by omega), wraps_u64 c (by omega) (by omega), wraps_u64 d (by omega) (by omega), Mul64_is h1 (by omega) (by omega) (by omega), Mul64_is k1 (by omega) (by omega) (by omega)]
  simp only [Option.bind_some]
  unfold cmpr
  by_cases g1 : a * d / 18446744073709551616 < c * b / 18446744073709551616
  · rw [if_pos (show a * d < c * b from l1.2 (.inl g1))]
    refine Ev.pos g1 (Ev.step (fun k => by rw [ratio_Cmp.j1]) (Ev.pos rfl (Ev.now _)))
  · refine Ev.neg g1 ?_
    by_cases g2 : a * d / 18446744073709551616 = c * b / 18446744073709551616
    · refine Ev.pos g2 (Ev.step (fun k => by rw [ratio_Cmp.j1]) ?_)
      by_cases g3 : a * d % 18446744073709551616 < c * b % 18446744073709551616
      · rw [if_pos (show a * d < c * b from l1.2 (.inr ⟨g2, g3⟩))]
        exact Ev.pos (decide_eq_true g3) (Ev.now _)
      · rw [if_neg (show ¬ (a * d < c * b) from fun q => by rcases l1.1 q with q | q; exact g1 q; exact g3 q.2)]
        refine Ev.neg (by simp [g3]) (Ev.pos g2 ?_)
        by_cases g4 : a * d % 18446744073709551616 = c * b % 18446744073709551616
        · rw [if_pos (show a * d = c * b from l2.2 ⟨g2, g4⟩)]
          exact Ev.pos g4 (Ev.now _)
        · rw [if_neg (show ¬ (a * d = c * b) from fun q => g4 (l2.1 q).2)]
          exact Ev.neg g4 (Ev.now _)
    · rw [if_neg (show ¬ (a * d < c * b) from fun q => by rcases l1.1 q with q | q; exact g1 q; exact g2 q.1), if_neg (show ¬ (a * d = c * b) from fun q => g2 (l2.1 q).1)]
      exact Ev.neg g2 (Ev.step (fun k => by rw [ratio_Cmp.j1]) (Ev.neg (by simp) (Ev.neg g2 (Ev.now _))))
theorem ratio_Less_is {a b c d : Int} (h : RatV a b) (h' : RatV c d) : Ev (fun k => ratio_Less.f k a b c d) (decide (a * d < c * b)) := by
  unfold ratio_Less.f
  refine Ev.bind (ratio_Cmp_is h h') ?_
  have : (decide (cmpr a b c d < 0)) = decide (a * d < c * b) := by
    rw [decide_eq_decide]
    exact cmpr_neg
  rw [this]
  exact Ev.now _
/-! ### the greatest gap -/
def gp (p q : List (List Int)) (k : Nat) : Int × Int := ((gapv (X.chn p k) (X.chn q k)).1, (gapv (X.chn p k) (X.chn q k)).2.1)
def gst (b g : Int × Int) : Int × Int := if b.1 * g.2 < g.1 * b.2 then g else b
def grL (p q : List (List Int)) : Nat → Int × Int
  | 0 => (0, 1)
  | k + 1 => gst (grL p q k) (gp p q k)
def RV (g : Int × Int) : Prop := RatV g.1 g.2
def le2 (a b : Int × Int) : Prop := a.1 * b.2 ≤ b.1 * a.2
theorem gap_ok {x y : List Int} (hx : Smp x) (hy : Smp y) (h32 : x.length ≤ 32) (hl : x.length = y.length) : ∃ u v : Int, gapv x y = (u, v, 0) ∧ RatV u v := by
  obtain ⟨u, v, e, r, -⟩ := gapn_facts (cov_self_nonneg x) (cov_bound hx h32) (cov_self_nonneg y) (cov_bound hy (by omega)) (cov_cs hl)
  exact ⟨u, v, e, r⟩
theorem le2_refl (a : Int × Int) : le2 a a := Int.le_refl _
theorem le2_trans {a b c : Int × Int} (ha : 0 ≤ a.2) (hb : 0 < b.2) (hc : 0 ≤ c.2) (h1 : le2 a b) (h2 : le2 b c) : le2 a c := by
  unfold le2 at *
  have e1 : a.1 * b.2 * c.2 ≤ b.1 * a.2 * c.2 := Int.mul_le_mul_of_nonneg_right h1 hc
  have e2 : b.1 * c.2 * a.2 ≤ c.1 * b.2 * a.2 := Int.mul_le_mul_of_nonneg_right h2 ha
  have e3 : (a.1 * c.2) * b.2 ≤ (c.1 * a.2) * b.2 := by
    have f1 : a.1 * c.2 * b.2 = a.1 * b.2 * c.2 := Int.mul_right_comm _ _ _
    have f2 : b.1 * a.2 * c.2 = b.1 * c.2 * a.2 := Int.mul_right_comm _ _ _
    have f3 : c.1 * a.2 * b.2 = c.1 * b.2 * a.2 := Int.mul_right_comm _ _ _
    omega
  exact Int.le_of_mul_le_mul_right e3 hb
theorem RV_eq {a b : Int × Int} (ha : RV a) (hb : RV b) (h : a.1 * b.2 = b.1 * a.2) : a = b := by
  obtain ⟨a1, a2⟩ := a
  obtain ⟨b1, b2⟩ := b
  obtain ⟨h1, -, h3, -, h5⟩ := ha
  obtain ⟨k1, -, k3, -, k5⟩ := hb
  dsimp only at *
  unfold gcdz at h5 k5
  obtain ⟨x1, rfl⟩ := Int.eq_ofNat_of_zero_le h1
  obtain ⟨x2, rfl⟩ := Int.eq_ofNat_of_zero_le (show 0 ≤ a2 by omega)
  obtain ⟨y1, rfl⟩ := Int.eq_ofNat_of_zero_le k1
  obtain ⟨y2, rfl⟩ := Int.eq_ofNat_of_zero_le (show 0 ≤ b2 by omega)
  simp only [Int.toNat_natCast] at h5 k5
  have g1 : Nat.gcd x1 x2 = 1 := by omega
  have g2 : Nat.gcd y1 y2 = 1 := by omega
  have e : x1 * y2 = y1 * x2 := by
    have : ((x1 * y2 : Nat) : Int) = ((y1 * x2 : Nat) : Int) := by rw [Int.natCast_mul, Int.natCast_mul]; exact h
    omega
  have d1 : x2 ∣ y2 := Nat.Coprime.dvd_of_dvd_mul_left (Nat.Coprime.symm g1) (e ▸ Nat.dvd_mul_left _ _)
  have d2 : y2 ∣ x2 := Nat.Coprime.dvd_of_dvd_mul_left (Nat.Coprime.symm g2) (e ▸ Nat.dvd_mul_left _ _)
  have e2 : x2 = y2 := Nat.dvd_antisymm d1 d2
  subst e2
  have : x1 = y1 := Nat.eq_of_mul_eq_mul_right (by omega) e
  rw [this]
theorem gst_facts {b g : Int × Int} (hb : RV b) (hg : RV g) : RV (gst b g) ∧ le2 b (gst b g) ∧ le2 g (gst b g) ∧ (gst b g = g ∨ gst b g = b) := by
  unfold gst
  by_cases h : b.1 * g.2 < g.1 * b.2
  · rw [if_pos h]
    exact ⟨hg, Int.le_of_lt h, le2_refl _, .inl rfl⟩
  · rw [if_neg h]
    exact ⟨hb, le2_refl _, by unfold le2; omega, .inr rfl⟩
theorem gp_ok {p q : List (List Int)} {n : Nat} {b : Int} (h : Fit p q n n b) {i : Nat} (hi : i < p.length) : RV (gp p q i) ∧ gapv (X.chn p i) (X.chn q i) = ((gp p q i).1, (gp p q i).2, 0) := by
  have hp := h.chp hi
  have hq := h.chq hi
  obtain ⟨u, v, e, r⟩ := gap_ok hp.2 hq.2 (by have := h.n2; omega) (by rw [hp.1, hq.1])
  unfold RV gp
  rw [e]
  exact ⟨r, rfl⟩
theorem rv0 : RV (0, 1) := ⟨by decide, by decide, by decide, by decide, by decide⟩
theorem grL_facts {p q : List (List Int)} {n : Nat} {b : Int} (h : Fit p q n n b) : ∀ k, k ≤ p.length → RV (grL p q k) ∧ (∀ j, j < k → le2 (gp p q j) (grL p q k)) ∧ (grL p q k = (0, 1) ∨ ∃ j, j < k ∧ grL p q k = gp p q j)
  | 0, _ => ⟨rv0, fun j hj => absurd hj (Nat.not_lt_zero _), .inl rfl⟩
  | k + 1, hk => by
    obtain ⟨h1, h2, h3⟩ := grL_facts h k (by omega)
    have g1 := (gp_ok h (i := k) (by omega)).1
    obtain ⟨r1, r2, r3, r4⟩ := gst_facts h1 g1
    show RV (gst (grL p q k) (gp p q k)) ∧ (∀ j, j < k + 1 → le2 (gp p q j) (gst (grL p q k) (gp p q k))) ∧ (gst (grL p q k) (gp p q k) = (0, 1) ∨ ∃ j, j < k + 1 ∧ gst (grL p q k) (gp p q k) = gp p q j)
    refine ⟨r1, fun j hj => ?_, ?_⟩
    · by_cases e : j = k
      · rw [e]; exact r3
      · have gj := (gp_ok h (i := j) (by omega)).1
        exact le2_trans (by have := gj.2.2.1; omega) (by have := h1.2.2.1; omega) (by have := r1.2.2.1; omega) (h2 j (by omega)) r2
    · rcases r4 with e | e
      · exact .inr ⟨k, by omega, e⟩
      · rw [e]
        rcases h3 with h3 | ⟨j, hj, h3⟩
        · exact .inl h3
        · exact .inr ⟨j, by omega, h3⟩
theorem Greatest_l0 {p q : List (List Int)} {n : Nat} {b : Int} (h : Fit p q n n b) (d : Nat) : ∀ i : Nat, i + d = p.length → Ev (fun k => channels_Greatest.l0 k p q (p.length : Int) (i : Int) (grL p q i).1 (grL p q i).2) ((grL p q p.length).1, (grL p q p.length).2, 0) := by
  induction d with
  | zero =>
    intro i hi
    obtain rfl : i = p.length := by omega
    exact Ev.step (fun k => by rw [channels_Greatest.l0]) (Ev.neg (by omega) (Ev.now _))
  | succ d ih =>
    intro i hi
    have hp := h.chp (i := i) (by omega)
    have hq := h.chq (i := i) (by omega)
    have h4 := h.p4
    have hpq := h.pq
    have hn := h.n2
    obtain ⟨g1, g2⟩ := gp_ok h (i := i) (by omega)
    have gr := (grL_facts h i (by omega)).1
    have hI := ih (i + 1) (by omega)
    refine Ev.step (fun k => by rw [channels_Greatest.l0]) (Ev.pos (by omega) (Ev.pos (by omega) (Ev.pos (by omega) (Ev.pos (by omega) ?_))))
    rw [rdL_chn p i, rdL_chn q i, show wrap64 ((i : Int) + 1) = ((i + 1 : Nat) : Int) by rw [w64 (by omega) (by omega)]; omega]
    have hg := normal_Gap_ok hp.2 hq.2 (by omega) (by omega) (by rw [hp.1, hq.1])
    rw [g2] at hg
    refine Ev.bind hg (Ev.pos rfl (Ev.bind (ratio_Less_is gr g1) ?_))
    by_cases hlt : (grL p q i).1 * (gp p q i).2 < (gp p q i).1 * (grL p q i).2
    · have e : grL p q (i + 1) = gp p q i := by show gst _ _ = _; unfold gst; rw [if_pos hlt]
      rw [e] at hI
      exact Ev.pos (decide_eq_true hlt) hI
    · have e : grL p q (i + 1) = grL p q i := by show gst _ _ = _; unfold gst; rw [if_neg hlt]
      rw [e] at hI
      exact Ev.neg (by simp [hlt]) hI
theorem Greatest_is {p q : List (List Int)} {n : Nat} {b : Int} (h : Fit p q n n b) : Ev (fun k => channels_Greatest.f k p q) ((grL p q p.length).1, (grL p q p.length).2, 0) := by
  unfold channels_Greatest.f
  have h0 : Fit p q n n 0 := ⟨h.p1, h.p4, h.pq, h.pr, h.qr, h.n2, h.m2, ⟨by omega, by omega⟩, ⟨by omega, by omega⟩⟩
  refine Ev.bind (check_is h0) (Ev.pos rfl ?_)
  exact Greatest_l0 h p.length 0 (by omega)
/-! ### the document's functions (layer 12), for any windows -/
theorem ref12_Samples_l0 (x : List Int) (hn : x.length ≤ 1000000000) (d : Nat) : ∀ i : Nat, i + d = x.length → Ev (fun k => shapesearchref12_Samples.l0 k x (x.length : Int) (i : Int)) (if smpb (x.drop i) = true then 0 else 12) := by
  induction d with
  | zero =>
    intro i hi
    refine Ev.step (fun k => by rw [shapesearchref12_Samples.l0]) (Ev.neg (by omega) ?_)
    rw [List.drop_eq_nil_of_le (by omega)]
    exact Ev.now _
  | succ d ih =>
    intro i hi
    have hlt : i < x.length := by omega
    refine Ev.step (fun k => by rw [shapesearchref12_Samples.l0]) (Ev.pos (by omega) (Ev.pos (by omega) (Ev.pos (by omega) ?_)))
    have e : wrap64 ((i : Int) + 1) = ((i + 1 : Nat) : Int) := by rw [w64 (by omega) (by omega)]; omega
    rw [rd_nat x i hlt, List.drop_eq_getElem_cons hlt, e]
    have hc : smpb (x[i] :: x.drop (i + 1)) = (decide (-1000 ≤ x[i] ∧ x[i] ≤ 1000) && smpb (x.drop (i + 1))) := by unfold smpb; rw [List.all_cons]
    have hs : shapesearchref04_Sample.f x[i] = some (decide (-1000 ≤ x[i] ∧ x[i] ≤ 1000)) := by
      unfold shapesearchref04_Sample.f
      by_cases h1 : x[i] ≥ -1000
      · rw [if_pos h1]
        congr 1
        rw [decide_eq_decide]
        omega
      · rw [if_neg h1, decide_eq_false (by omega)]
    rw [hc, hs]
    refine Ev.bind (Ev.now _) ?_
    by_cases h : -1000 ≤ x[i] ∧ x[i] ≤ 1000
    · rw [decide_eq_true h, Bool.true_and]
      exact Ev.pos rfl (ih (i + 1) (by omega))
    · rw [decide_eq_false h, Bool.false_and]
      exact Ev.neg (by simp) (Ev.now _)
theorem ref12_Samples_is (x : List Int) (hn : x.length ≤ 1000000000) : Ev (fun k => shapesearchref12_Samples.f k x) (if smpb x = true then 0 else 12) := by
  have := ref12_Samples_l0 x hn x.length 0 (by omega)
  exact this
theorem ref12_Two_is (x y : List Int) (hx : x.length ≤ 1000000000) (hy : y.length ≤ 1000000000) : Ev (fun k => shapesearchref12_Two.f k x y 0) (chk x y) := by
  unfold chk
  have j1 : ∀ b : Bool, Ev (fun k => shapesearchref12_Two.j1 k x y 0 b) (if b = true then 12 else if x.length = y.length then 0 else 8) := by
    intro b
    refine Ev.step (fun k => by rw [shapesearchref12_Two.j1]) ?_
    cases b with
    | true => exact Ev.pos rfl (Ev.now _)
    | false =>
      refine Ev.neg (by simp) ?_
      rw [w64 (n := (x.length : Int) - (y.length : Int)) (by omega) (by omega), w64 (n := (y.length : Int) - (x.length : Int)) (by omega) (by omega), if_neg (show ¬ (false = true) by simp)]
      by_cases h : x.length = y.length
      · rw [if_pos h]
        exact Ev.neg (by omega) (Ev.neg (by omega) (Ev.now _))
      · rw [if_neg h]
        by_cases h1 : (x.length : Int) - (y.length : Int) > 0
        · exact Ev.pos h1 (Ev.now _)
        · exact Ev.neg h1 (Ev.pos (by omega) (Ev.now _))
  have j0 : ∀ b : Bool, Ev (fun k => shapesearchref12_Two.j0 k x y 0 b) (if b = true then 8 else if smpb x = true ∧ smpb y = true then (if x.length = y.length then 0 else 8) else 12) := by
    intro b
    refine Ev.step (fun k => by rw [shapesearchref12_Two.j0]) ?_
    cases b with
    | true => exact Ev.pos rfl (Ev.now _)
    | false =>
      refine Ev.neg (by simp) (Ev.bind (ref12_Samples_is x hx) ?_)
      rw [if_neg (show ¬ (false = true) by simp)]
      cases hsx : smpb x with
      | true =>
        rw [if_pos rfl]
        refine Ev.pos rfl (Ev.bind (ref12_Samples_is y hy) ?_)
        cases hsy : smpb y with
        | true => simpa using j1 false
        | false => simpa using j1 true
      | false =>
        rw [if_neg (show ¬ (false = true) by simp)]
        refine Ev.neg (by decide) ?_
        simpa using j1 true
  unfold shapesearchref12_Two.f lenb
  by_cases h1 : (x.length : Int) < 2
  · refine Ev.pos h1 ?_
    rw [if_neg (fun h => by have := of_decide_eq_true h.1; omega)]
    simpa using j0 true
  refine Ev.neg h1 ?_
  by_cases h2 : (x.length : Int) > 32
  · refine Ev.pos h2 ?_
    rw [if_neg (fun h => by have := of_decide_eq_true h.1; omega)]
    simpa using j0 true
  refine Ev.neg h2 ?_
  by_cases h3 : (y.length : Int) < 2
  · refine Ev.pos h3 ?_
    rw [if_neg (fun h => by have := of_decide_eq_true h.2; omega)]
    simpa using j0 true
  refine Ev.neg h3 ?_
  by_cases h4 : (y.length : Int) > 32
  · rw [decide_eq_true h4, if_neg (fun h => by have := of_decide_eq_true h.2; omega)]
    simpa using j0 true
  · rw [decide_eq_false h4, if_pos ⟨decide_eq_true (by omega), decide_eq_true (by omega)⟩]
    simpa using j0 false
/-- What Within answers. -/
def wth (x y : List Int) (a : Int) : Int × Bool := if chk x y = 0 then (if sqd x y > a then (0, false) else (sqd x y, true)) else (0, false)
/-- What Profile answers. -/
def pfl (q l : List Int) : List Int × Int := if lenb q = true then (if smpb q = true then (if l.length > 2000 then ([], 4) else if smpb l = true then (prof q l (l.length + 1 - q.length), 0) else ([], 12)) else ([], 12)) else ([], 8)
theorem ref01_Make_ok {n d : Int} (h0 : 0 ≤ n) (hn : n ≤ 2305843009213693952) (h1 : 1 ≤ d) (hd : d ≤ 1152921504606846976) : Ev (fun k => shapesearchref01_Make.f k n d) (mkr n d) := by
  have hg := gcdz_pos (n := n) (d := d) h1
  have b1 := Int.ediv_le_self (gcdz n d) (show 0 ≤ n by omega)
  have b2 := Int.ediv_le_self (gcdz n d) (show 0 ≤ d by omega)
  have b3 := Int.ediv_nonneg (show 0 ≤ n by omega) (show 0 ≤ gcdz n d by omega)
  have b4 := Int.ediv_nonneg (show 0 ≤ d by omega) (show 0 ≤ gcdz n d by omega)
  have em : mkr n d = (n / gcdz n d, d / gcdz n d, 0) := by
    unfold mkr
    rw [if_neg (by omega), if_pos ⟨by omega, by omega⟩]
  obtain ⟨p, q, g, e, v, -, -, -⟩ := mkr_ok h0 hn h1 hd
  rw [em] at e
  injection e with ep e
  injection e with eq e
  rw [← ep, ← eq] at v
  have e1 : wrap64 (Int.tdiv n (gcdz n d)) = n / gcdz n d := by rw [Int.tdiv_eq_ediv_of_nonneg (by omega), w64 (by omega) (by omega)]
  have e2 : wrap64 (Int.tdiv d (gcdz n d)) = d / gcdz n d := by rw [Int.tdiv_eq_ediv_of_nonneg (by omega), w64 (by omega) (by omega)]
  unfold shapesearchref01_Make.f
  refine Ev.neg (by omega) ?_
  rw [decide_eq_false (by omega)]
  refine Ev.step (fun k => by rw [shapesearchref01_Make.j0]) (Ev.neg (by simp) (Ev.bind (ref01_common_is n d h0 (by omega)) (Ev.neg (fun hz => by have hz' : gcdz n d = 0 := hz; omega) ?_)))
  rw [e1, e2, em]
  exact Ev.bind (ref01_Valid_ok v) (Ev.pos rfl (Ev.now _))
/-! ### the document's gaps -/
theorem ref13_product_l0 (x y : List Int) (hx : Smp x) (hy : Smp y) (hl : x.length = y.length) (hn : x.length ≤ 32) (d : Nat) :
    ∀ (i : Nat) (p s t : Int), i + d = x.length → -1000000 * i ≤ p → p ≤ 1000000 * i → -1000 * i ≤ s → s ≤ 1000 * i → -1000 * i ≤ t → t ≤ 1000 * i →
      Ev (fun k => shapesearchref13_product.l0 k x y p s t (x.length : Int) (i : Int)) ((x.length : Int) * (p + dot (x.drop i) (y.drop i)) - (s + sm (x.drop i)) * (t + sm (y.drop i))) := by
  induction d with
  | zero =>
    intro i p s t hi p0 p1 s0 s1 t0 t1
    refine Ev.step (fun k => by rw [shapesearchref13_product.l0]) (Ev.neg (by omega) ?_)
    rw [List.drop_eq_nil_of_le (by omega), List.drop_eq_nil_of_le (by omega)]
    simp only [dot, sm, Int.add_zero]
    have b1 := mul_abs (u := (x.length : Int)) (v := p) (A := 32) (B := 32000000) (by omega) (by omega) (by omega) (by omega) (by omega) (by omega)
    have b2 := mul_abs (u := s) (v := t) (A := 32000) (B := 32000) (by omega) (by omega) (by omega) (by omega) (by omega) (by omega)
    rw [w64 (n := (x.length : Int) * p) (by omega) (by omega), w64 (n := s * t) (by omega) (by omega), w64 (n := (x.length : Int) * p - s * t) (by omega) (by omega)]
    exact Ev.now _
  | succ d ih =>
    intro i p s t hi p0 p1 s0 s1 t0 t1
    have hlt : i < x.length := by omega
    have hlt' : i < y.length := by omega
    have bx := hx x[i] (List.getElem_mem _)
    have by_ := hy y[i] (List.getElem_mem _)
    refine Ev.step (fun k => by rw [shapesearchref13_product.l0]) (Ev.pos (by omega) (Ev.pos (by omega) (Ev.pos (by omega) (Ev.pos (by omega) ?_))))
    have hi1 : i + 1 + d = x.length := by omega
    have hc : ((i + 1 : Nat) : Int) = (i : Int) + 1 := by omega
    have hi32 : i ≤ 32 := by omega
    rw [w_succ (by omega), rd_nat x i hlt, rd_nat y i hlt', List.drop_eq_getElem_cons hlt, List.drop_eq_getElem_cons hlt']
    simp only [dot, sm]
    generalize x[i] = u at *
    generalize y[i] = v at *
    have b1 := mul_abs (u := u) (v := v) (A := 1000) (B := 1000) (by omega) (by omega) (by omega) (by omega) (by omega) (by omega)
    have := ih (i + 1) (p + u * v) (s + u) (t + v) hi1 (by rw [hc]; omega) (by rw [hc]; omega) (by rw [hc]; omega) (by rw [hc]; omega) (by rw [hc]; omega) (by rw [hc]; omega)
    rw [w64 (n := u * v) (by omega) (by omega), w64 (n := p + u * v) (by omega) (by omega), w64 (n := s + u) (by omega) (by omega), w64 (n := t + v) (by omega) (by omega)]
    rw [Int.add_assoc, Int.add_assoc, Int.add_assoc] at this
    exact this
theorem ref13_product_is {x y : List Int} (hx : Smp x) (hy : Smp y) (hl : x.length = y.length) (hn : x.length ≤ 32) : Ev (fun k => shapesearchref13_product.f k x y) (cov x y) := by
  have := ref13_product_l0 x y hx hy hl hn x.length 0 0 0 0 (by omega) (by omega) (by omega) (by omega) (by omega) (by omega) (by omega)
  simp only [List.drop_zero, Int.zero_add] at this
  exact this
theorem ref13_Between_j1 {v w c : Int} (v0 : 1 ≤ v) (v1 : v ≤ 1024000000) (w0 : 1 ≤ w) (w1 : w ≤ 1024000000) (hc : c * c ≤ v * w) : Ev (fun k => shapesearchref13_Between.j1 k c v w (decide (c ≥ 0)) 1 1) ((gapn v w c).1, (gapn v w c).2.1) := by
  have cc := sqnn c
  have hvw : v * w ≤ 1024000000 * 1024000000 := Int.mul_le_mul v1 w1 (by omega) (by omega)
  have hvw1 : 1 * 1 ≤ v * w := Int.mul_le_mul v0 w0 (by omega) (by omega)
  have e : gapn v w c = if c < 0 then mkr (v * w + c * c) (v * w) else mkr (v * w - c * c) (v * w) := by unfold gapn; rw [if_neg (by omega), if_neg (by omega)]
  rw [e]
  refine Ev.step (fun k => by rw [shapesearchref13_Between.j1]) ?_
  rw [w64 (n := v * w) (by omega) (by omega), w64 (n := c * c) (by omega) (by omega), w64 (n := v * w - c * c) (by omega) (by omega), w64 (n := v * w + c * c) (by omega) (by omega)]
  by_cases h : c < 0
  · rw [if_pos h]
    exact Ev.neg (by simp; omega) (Ev.neg (by omega) (Ev.neg (by omega) (Ev.bind (ref01_Make_ok (by omega) (by omega) (by omega) (by omega)) (Ev.now _))))
  · rw [if_neg h]
    exact Ev.pos (by simp; omega) (Ev.bind (ref01_Make_ok (by omega) (by omega) (by omega) (by omega)) (Ev.now _))
theorem ref13_Between_is {v w c : Int} (v0 : 0 ≤ v) (v1 : v ≤ 1024000000) (w0 : 0 ≤ w) (w1 : w ≤ 1024000000) (hc : c * c ≤ v * w) : Ev (fun k => shapesearchref13_Between.f k c v w) ((gapn v w c).1, (gapn v w c).2.1) := by
  unfold shapesearchref13_Between.f
  by_cases hv : v = 0
  · refine Ev.pos hv ?_
    by_cases hw : w = 0
    · have e : gapn v w c = (0, 1, 0) := by unfold gapn; rw [if_pos ⟨hv, hw⟩]; rfl
      rw [e]
      exact Ev.step (fun k => by rw [shapesearchref13_Between.j0]) (Ev.pos (beq_iff_eq.mpr hw) (Ev.now _))
    · have e : gapn v w c = (1, 1, 0) := by unfold gapn; rw [if_neg (by omega), if_pos (.inl hv)]; rfl
      rw [e]
      refine Ev.step (fun k => by rw [shapesearchref13_Between.j0]) (Ev.neg (by simp [hw]) (Ev.pos hv ?_))
      exact Ev.step (fun k => by rw [shapesearchref13_Between.j1]) (Ev.neg (by simp) (Ev.pos hv (Ev.now _)))
  · refine Ev.neg hv (Ev.step (fun k => by rw [shapesearchref13_Between.j0]) (Ev.neg (by simp) (Ev.neg hv ?_)))
    by_cases hw : w = 0
    · have e : gapn v w c = (1, 1, 0) := by unfold gapn; rw [if_neg (by omega), if_pos (.inr hw)]; rfl
      rw [e]
      refine Ev.pos hw (Ev.step (fun k => by rw [shapesearchref13_Between.j1]) (Ev.neg (by simp) (Ev.neg hv (Ev.pos hw (Ev.now _)))))
    · exact Ev.neg hw (ref13_Between_j1 (by omega) v1 (by omega) w1 hc)
theorem ref13_Gap_ok {x y : List Int} (hx : Smp x) (hy : Smp y) (h2 : 2 ≤ x.length) (h32 : x.length ≤ 32) (hl : x.length = y.length) : Ev (fun k => shapesearchref13_Gap.f k x y) (gapv x y) := by
  obtain ⟨u, v, e, r⟩ := gap_ok hx hy h32 hl
  have hb := ref13_Between_is (c := cov x y) (cov_self_nonneg x) (cov_bound hx h32) (cov_self_nonneg y) (cov_bound hy (by omega)) (cov_cs hl)
  have h2' := ref12_Two_is x y (by omega) (by omega)
  rw [chk_ok hx hy h2 h32 hl] at h2'
  unfold shapesearchref13_Gap.f
  refine Ev.bind (a := (cov x y, 0)) ?_ (Ev.pos rfl (Ev.bind (ref13_product_is hx hx rfl h32) (Ev.bind (ref13_product_is hy hy rfl (by omega)) (Ev.bind hb ?_))))
  · unfold shapesearchref13_Product.f
    exact Ev.bind h2' (Ev.pos rfl (Ev.bind (ref13_product_is hx hy hl h32) (Ev.now _)))
  · have : gapn (cov x x) (cov y y) (cov x y) = gapv x y := rfl
    rw [this, e]
    exact Ev.now _
theorem found_is {p q : List (List Int)} {n : Nat} {b : Int} (h : Fit p q n n b) : ∃ j, j < p.length ∧ grL p q p.length = gp p q j := by
  obtain ⟨r1, r2, r3⟩ := grL_facts h p.length (Nat.le_refl _)
  rcases r3 with e | e
  · have hp := h.p1
    have g := (gp_ok h (i := 0) (by omega)).1
    have hl := r2 0 (by omega)
    rw [e] at hl
    unfold le2 at hl
    dsimp only at hl
    have h0 : (gp p q 0).1 = 0 := by have := g.1; omega
    refine ⟨0, by omega, ?_⟩
    rw [e]
    exact RV_eq rv0 g (by rw [h0]; simp)
  · exact e
theorem Gr_l0 {p q : List (List Int)} {n : Nat} {b : Int} (h : Fit p q n n b) (G : Int × Int) (hG : RV G) (hle : ∀ j, j < p.length → le2 (gp p q j) G) (hex : ∃ j, j < p.length ∧ G = gp p q j) (d : Nat) :
    ∀ (i : Nat) (f : Bool), i + d = p.length → (f = true ↔ ∃ j, j < i ∧ G = gp p q j) → Ev (fun k => shapesearchlaw16_ChannelsGreatest.l0 k p q 0 f (p.length : Int) (i : Int) G.1 G.2) true := by
  have h4 := h.p4
  have hpq := h.pq
  have hn := h.n2
  induction d with
  | zero =>
    intro i f hi hf
    obtain rfl : i = p.length := by omega
    exact Ev.step (fun k => by rw [shapesearchlaw16_ChannelsGreatest.l0]) (Ev.neg (by omega) (Ev.pos rfl (Ev.pos (hf.2 hex) (Ev.bind awake_is (Ev.now _)))))
  | succ d ih =>
    intro i f hi hf
    have hp := h.chp (i := i) (by omega)
    have hq := h.chq (i := i) (by omega)
    obtain ⟨g1, g2⟩ := gp_ok h (i := i) (by omega)
    have hg := ref13_Gap_ok hp.2 hq.2 (by omega) (by omega) (by rw [hp.1, hq.1])
    rw [g2] at hg
    have hl := hle i (by omega)
    have hlt : ¬ (G.1 * (gp p q i).2 < (gp p q i).1 * G.2) := by unfold le2 at hl; omega
    have hless : Ev (fun k => shapesearchref01_Less.f k G.1 G.2 (gp p q i).1 (gp p q i).2) false := by
      unfold shapesearchref01_Less.f
      refine Ev.bind (ref01_Cmp_is hG g1) ?_
      rw [decide_eq_false (fun q => hlt (cmpr_neg.1 q))]
      exact Ev.now _
    refine Ev.step (fun k => by rw [shapesearchlaw16_ChannelsGreatest.l0]) (Ev.pos (by omega) (Ev.pos (by omega) (Ev.pos (by omega) (Ev.pos (by omega) ?_))))
    rw [rdL_chn p i, rdL_chn q i, show wrap64 ((i : Int) + 1) = ((i + 1 : Nat) : Int) by rw [w64 (by omega) (by omega)]; omega]
    refine Ev.bind hg (Ev.bind hless (Ev.neg (by simp) ?_))
    cases f with
    | true =>
      refine Ev.pos rfl (ih (i + 1) true (by omega) ⟨fun _ => ?_, fun _ => rfl⟩)
      obtain ⟨j, hj, e⟩ := hf.1 rfl
      exact ⟨j, by omega, e⟩
    | false =>
      refine Ev.neg (by simp) (ih (i + 1) _ (by omega) ?_)
      constructor
      · intro e
        simp only [Bool.and_eq_true, beq_iff_eq] at e
        exact ⟨i, by omega, Prod.ext e.1 e.2⟩
      · rintro ⟨j, hj, e⟩
        by_cases hji : j = i
        · subst hji
          rw [e]
          simp
        · have := hf.2 ⟨j, by omega, e⟩
          cases this
theorem ChannelsGreatest : shapesearchlaw16_ChannelsGreatest.Pure := by
  intro l0 h1 h2 h3
  refine EvP.rounds ?_
  unfold shapesearchlaw16_ChannelsGreatest.f
  refine EvP.bind (keep_New l0 h3 h1) (fun s hs => EvP.bind (keep_Pair s.1 s.2 hs) (fun u hu => ?_))
  obtain ⟨a1, a2, a3, a4, a5, a6⟩ := hu
  refine EvP.bind (keep_Near s.1 u.2.2 u.1 a1 a2 (by omega) (by omega)) (fun z hz => EvP.bind (keep_List s.1 z.2 (u.1.length : Int) hz.1 (by omega) (by omega)) (fun l hl => ?_))
  simp only [Option.bind_some]
  refine EvP.bind (keep_Near s.1 l.2 u.2.1 hl.1 a3 (by omega) (by omega)) (fun y hy => EvP.bind (keep_Near s.1 y.2 u.1 hy.1 a2 (by omega) (by omega)) (fun v hv => ?_))
  have hfit : Fit [u.1, z.1, l.1] [u.2.1, y.1, v.1] u.1.length u.1.length 0 := by
    refine ⟨by simp, by simp, rfl, ?_, ?_, ⟨a4, a5⟩, ⟨a4, a5⟩, ⟨by omega, by omega⟩, ⟨by omega, by omega⟩⟩
    · intro x hx
      simp only [List.mem_cons, List.not_mem_nil, or_false] at hx
      rcases hx with rfl | rfl | rfl
      · exact ⟨rfl, a2⟩
      · exact ⟨hz.2.2, hz.2.1⟩
      · exact ⟨by have := hl.2.2; omega, hl.2.1⟩
    · intro x hx
      simp only [List.mem_cons, List.not_mem_nil, or_false] at hx
      rcases hx with rfl | rfl | rfl
      · exact ⟨a6, a3⟩
      · exact ⟨by have := hy.2.2; omega, hy.2.1⟩
      · exact ⟨hv.2.2, hv.2.1⟩
  have hfa := grL_facts hfit _ (Nat.le_refl _)
  exact EvP.bind1 (Greatest_is hfit) (Ev.evp (Gr_l0 hfit _ hfa.1 hfa.2.1 (found_is hfit) 3 0 false rfl ⟨fun e => absurd e (by decide), fun ⟨j, hj, _⟩ => absurd hj (Nat.not_lt_zero _)⟩))

end Go.Proofs.Ytodipcfbgnljeaa.Pure
