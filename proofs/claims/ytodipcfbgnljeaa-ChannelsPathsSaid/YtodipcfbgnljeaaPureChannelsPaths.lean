/- This file proves that distances of bundles apart are at most those together, and these at most those straight ahead; and that with one channel both are the warping distance. -/
import Derived.Test.YtodipcfbgnljeaaPChannelsPathsx9
import Derived.Test.YtodipcfbgnljeaaBase
import Derived.Test.YtodipcfbgnljeaaMathEu
import Derived.Test.YtodipcfbgnljeaaMathWp
set_option linter.unusedVariables false
set_option linter.unusedSimpArgs false
namespace Go.Proofs.Ytodipcfbgnljeaa.Pure
open Go.RowKit Go.Proofs.Ytodipcfbgnljeaa.PChannelsPaths Go.Proofs.YtodipcfbgnljeaaW.PrintWords Go.Proofs.YtodipcfbgnljeaaW.PrintLast Go.Proofs.YtodipcfbgnljeaaW.PrintMore Go.Proofs.Ytodipcfbgnljeaa.Base
/-! ### numbers out of a list -/
theorem keep_New (l0 : List Int) (h : ∀ x ∈ l0, (Lit.int .i64 x).wf = true) (hl : l0.length ≤ maxLen) : EvP (fun _ => shapesearchkeep_New.f l0) (fun r => Src r.1 r.2) := by
  have e : mn (l0.length : Int) 2000 = ((min l0.length 2000 : Nat) : Int) := by unfold mn; split <;> omega
  unfold shapesearchkeep_New.f
  rw [e]
  refine EvP.pos (by omega) (EvP.pos (by omega) (EvP.ret ?_))
  refine ⟨Int.le_refl _, by omega, by rw [List.length_take]; omega, fun x hx => b_i64 (h x (List.mem_of_mem_take hx))⟩
theorem keep_Raw (s : List Int) (a : Int) (h : Src s a) : EvP (fun _ => shapesearchkeep_Src_Raw.f s a) (fun r => Src s r.2 ∧ -9223372036854775808 ≤ r.1 ∧ r.1 ≤ 9223372036854775807) := by
  obtain ⟨h0, h1, h2, h3⟩ := h
  unfold shapesearchkeep_Src_Raw.f
  refine EvP.ite (fun hc => EvP.ret ⟨⟨h0, h1, h2, h3⟩, by omega, by omega⟩) (fun hc => ?_)
  have hw : wrap64 (a + 1) = a + 1 := w64 (by omega) (by omega)
  have hw2 : wrap64 (a + 1 - 1) = a := by rw [w64 (by omega) (by omega)]; omega
  rw [hw, hw2]
  have hm := h3 _ (rd_mem s a h0 (by omega))
  exact EvP.pos h0 (EvP.pos (by omega) (EvP.ret ⟨⟨by omega, by omega, h2, h3⟩, hm⟩))
theorem keep_Mod (a n : Int) (ha : -9223372036854775808 ≤ a) (ha' : a ≤ 9223372036854775807) (hn : 1 ≤ n) (hn' : n ≤ 9223372036854775807) : EvP (fun _ => shapesearchkeep_Mod.f a n) (fun t => 0 ≤ t ∧ t < n) := by
  have h1 := Int.tmod_lt_of_pos a (show 0 < n by omega)
  have h2 := Int.lt_tmod_of_pos a (show 0 < n by omega)
  unfold shapesearchkeep_Mod.f
  refine EvP.neg (by omega) (EvP.neg (by omega) (EvP.ite (fun hc => EvP.ret ?_) (fun hc => EvP.ret ?_)))
  · rw [w64 (by omega) (by omega)]
    omega
  · omega
theorem keep_N (s : List Int) (a n : Int) (h : Src s a) (hn : 1 ≤ n) (hn' : n ≤ 9223372036854775807) : EvP (fun _ => shapesearchkeep_Src_N.f s a n) (fun r => Src s r.2 ∧ 0 ≤ r.1 ∧ r.1 < n) := by
  unfold shapesearchkeep_Src_N.f
  refine EvP.bind (keep_Raw s a h) (fun x hx => EvP.bind (keep_Mod x.1 n hx.2.1 hx.2.2 hn hn') (fun t ht => EvP.ret ⟨hx.1, ht⟩))
theorem keep_Range (s : List Int) (a lo hi : Int) (h : Src s a) (hlo : -1000000000000 ≤ lo) (hlh : lo ≤ hi) (hhi : hi ≤ 1000000000000) : EvP (fun _ => shapesearchkeep_Src_Range.f s a lo hi) (fun r => Src s r.2 ∧ lo ≤ r.1 ∧ r.1 ≤ hi) := by
  have e1 : wrap64 (hi - lo) = hi - lo := w64 (by omega) (by omega)
  have e2 : wrap64 (hi - lo + 1) = hi - lo + 1 := w64 (by omega) (by omega)
  unfold shapesearchkeep_Src_Range.f
  rw [e1, e2]
  refine EvP.bind (keep_N s a (hi - lo + 1) h (by omega) (by omega)) (fun x hx => EvP.ret ⟨hx.1, ?_⟩)
  have e3 : wrap64 (lo + x.1) = lo + x.1 := w64 (by omega) (by omega)
  show lo ≤ wrap64 (lo + x.1) ∧ wrap64 (lo + x.1) ≤ hi
  rw [e3]
  omega
theorem keep_Pick (s : List Int) (a : Int) (l : List Int) (h : Src s a) (hl : 1 ≤ l.length) (hl' : l.length ≤ 1000000) : EvP (fun _ => shapesearchkeep_Src_Pick.f s a l) (fun r => Src s r.2 ∧ r.1 ∈ l) := by
  unfold shapesearchkeep_Src_Pick.f
  exact EvP.bind (keep_N s a l.length h (by omega) (by omega)) (fun x hx => EvP.pos hx.2.1 (EvP.pos hx.2.2 (EvP.ret ⟨hx.1, rd_mem l x.1 hx.2.1 hx.2.2⟩)))
theorem keep_clip (x : Int) : EvP (fun _ => shapesearchkeep_clip.f x) (fun t => -1000 ≤ t ∧ t ≤ 1000) := by
  unfold shapesearchkeep_clip.f
  refine EvP.ret ⟨le_mn (Int.le_trans (by omega) (le_mx_right _ _)) (by omega), mn_le_right _ _⟩
theorem keep_List_l0 (s : List Int) (n kind size : Int) (hs : 1 ≤ size ∧ size ≤ 1000) (hn : 0 ≤ n ∧ n ≤ 100000) (d : Nat) :
    ∀ (x : Int) (out : List Int) (a : Int), Src s a → Smp out → -1000 ≤ x → x ≤ 1000 → out.length + d = n →
      EvP (fun k => shapesearchkeep_Src_List.l0 k n kind size x out out.length s a) (fun r => Src s r.2 ∧ Smp r.1 ∧ (r.1.length : Int) = n) := by
  have es : wrap64 (-size) = -size := w64 (by omega) (by omega)
  induction d with
  | zero =>
    intro x out a h ho hx hx' hd
    refine EvP.step (fun k => by rw [shapesearchkeep_Src_List.l0]) ?_
    exact EvP.neg (by omega) (EvP.ret ⟨h, ho, by dsimp only; omega⟩)
  | succ d ih =>
    intro x out a h ho hx hx' hd
    have ew : wrap64 ((out.length : Int) + 1) = (out.length : Int) + 1 := w64 (by omega) (by omega)
    have el : ∀ y : Int, (out.length : Int) + 1 = ((out ++ [y]).length : Nat) := fun y => by simp
    have push : ∀ (x' y a' : Int), Src s a' → -1000 ≤ x' → x' ≤ 1000 → -1000 ≤ y → y ≤ 1000 → EvP (fun k => shapesearchkeep_Src_List.l0 k n kind size x' (out ++ [y]) (wrap64 ((out.length : Int) + 1)) s a') (fun r => Src s r.2 ∧ Smp r.1 ∧ (r.1.length : Int) = n) := by
      intro x' y a' ha h1 h2 h3 h4
      rw [ew, el y]
      exact ih x' (out ++ [y]) a' ha (ho.snoc h3 h4) h1 h2 (by simp; omega)
    have hL : out.length < 17592186044416 := by omega
    have j3 : ∀ b : Bool, EvP (fun k => shapesearchkeep_Src_List.j3 k n kind size x out out.length kind b s a) (fun r => Src s r.2 ∧ Smp r.1 ∧ (r.1.length : Int) = n) := by
      intro b
      refine EvP.step (fun k => by rw [shapesearchkeep_Src_List.j3]) ?_
      refine EvP.ite (fun _ => ?_) (fun _ => EvP.ite (fun _ => ?_) (fun _ => ?_))
      · rw [es]
        refine EvP.bind (keep_Range s a (-size) size h (by omega) (by omega) (by omega)) (fun q hq => ?_)
        refine EvP.bind (keep_clip _) (fun t ht => EvP.pos hL (push t t q.2 hq.1 ht.1 ht.2 ht.1 ht.2))
      · refine EvP.bind (keep_N s a 4 h (by omega) (by omega)) (fun q hq => EvP.ite (fun _ => ?_) (fun _ => EvP.pos hL (push x x q.2 hq.1 hx hx' hx hx')))
        rw [es]
        exact EvP.bind (keep_Range s q.2 (-size) size hq.1 (by omega) (by omega) (by omega)) (fun p hp => EvP.pos hL (push p.1 p.1 p.2 hp.1 (by omega) (by omega) (by omega) (by omega)))
      · refine EvP.bind (keep_Pick s a [-1000, 1000, 1000, 0] h (by simp) (by simp)) (fun q hq => EvP.pos hL (push x q.1 q.2 hq.1 hx hx' ?_ ?_)) <;>
        · have := hq.2
          simp at this
          omega
    have j2 : ∀ b : Bool, EvP (fun k => shapesearchkeep_Src_List.j2 k n kind size x out out.length kind b s a) (fun r => Src s r.2 ∧ Smp r.1 ∧ (r.1.length : Int) = n) := by
      intro b
      refine EvP.step (fun k => by rw [shapesearchkeep_Src_List.j2]) ?_
      refine EvP.ite (fun _ => ?_) (fun _ => EvP.ite (fun _ => j3 _) (fun _ => j3 _))
      rw [es]
      exact EvP.bind (keep_Range s a (-size) size h (by omega) (by omega) (by omega)) (fun q hq => EvP.pos hL (push x q.1 q.2 hq.1 hx hx' (by omega) (by omega)))
    refine EvP.step (fun k => by rw [shapesearchkeep_Src_List.l0]) ?_
    exact EvP.pos (by omega) (EvP.ite (fun _ => j2 _) (fun _ => j2 _))
theorem keep_List (s : List Int) (a n : Int) (h : Src s a) (hn : 0 ≤ n) (hn' : n ≤ 100000) : EvP (fun k => shapesearchkeep_Src_List.f k s a n) (fun r => Src s r.2 ∧ Smp r.1 ∧ (r.1.length : Int) = n) := by
  unfold shapesearchkeep_Src_List.f
  refine EvP.bind (keep_N s a 6 h (by omega) (by omega)) (fun p hp => EvP.bind (keep_Pick s p.2 [1, 3, 10, 100, 1000] hp.1 (by simp) (by simp)) (fun q hq => ?_))
  have hq2 : 1 ≤ q.1 ∧ q.1 ≤ 1000 := by
    have := hq.2
    simp at this
    omega
  have j0 : ∀ x a', Src s a' → -1000 ≤ x → x ≤ 1000 → EvP (fun k => shapesearchkeep_Src_List.j0 k n p.1 q.1 x s a') (fun r => Src s r.2 ∧ Smp r.1 ∧ (r.1.length : Int) = n) := by
    intro x a' ha h1 h2
    refine EvP.step (fun k => by rw [shapesearchkeep_Src_List.j0]) ?_
    exact keep_List_l0 s n p.1 q.1 hq2 ⟨hn, hn'⟩ n.toNat x [] a' ha Smp.nil h1 h2 (by simp; omega)
  refine EvP.bind (keep_N s q.2 3 hq.1 (by omega) (by omega)) (fun r hr => EvP.ite (fun _ => ?_) (fun _ => j0 0 r.2 hr.1 (by omega) (by omega)))
  exact EvP.bind (keep_Range s r.2 (-1000) 1000 hr.1 (by omega) (by omega) (by omega)) (fun v hv => j0 v.1 v.2 hv.1 (by omega) (by omega))
theorem keep_Near_l0 (s x : List Int) (kind by_ q : Int) (hx : Smp x) (hn : 1 ≤ x.length) (hn' : x.length ≤ 100000) (d : Nat) :
    ∀ (out : List Int) (i : Int) (a : Int), Src s a → Smp out → out.length = x.length → 0 ≤ i → i + d = x.length →
      EvP (fun k => shapesearchkeep_Src_Near.l0 k x kind by_ q out (x.length : Int) i s a) (fun r => Src s r.2 ∧ Smp r.1 ∧ r.1.length = x.length) := by
  induction d with
  | zero =>
    intro out i a h ho hl hi hd
    refine EvP.step (fun k => by rw [shapesearchkeep_Src_Near.l0]) ?_
    exact EvP.neg (by omega) (EvP.ret ⟨h, ho, hl⟩)
  | succ d ih =>
    intro out i a h ho hl hi hd
    have ew : wrap64 (i + 1) = i + 1 := w64 (by omega) (by omega)
    have next : ∀ (out' : List Int) (a' : Int), Src s a' → Smp out' → out'.length = x.length → EvP (fun k => shapesearchkeep_Src_Near.l0 k x kind by_ q out' (x.length : Int) (wrap64 (i + 1)) s a') (fun r => Src s r.2 ∧ Smp r.1 ∧ r.1.length = x.length) := by
      intro out' a' h1 h2 h3
      rw [ew]
      exact ih out' (i + 1) a' h1 h2 h3 (by omega) (by omega)
    have put : ∀ (y a' : Int), Src s a' → -1000 ≤ y → y ≤ 1000 → EvP (fun k => shapesearchkeep_Src_Near.l0 k x kind by_ q (out.set (i : Int).toNat y) (x.length : Int) (wrap64 (i + 1)) s a') (fun r => Src s r.2 ∧ Smp r.1 ∧ r.1.length = x.length) :=
      fun y a' h1 h2 h3 => next _ a' h1 (ho.set _ h2 h3) (by simp [hl])
    have hlt : i < (out.length : Int) := by omega
    refine EvP.step (fun k => by rw [shapesearchkeep_Src_Near.l0]) ?_
    refine EvP.pos (by omega) ?_
    refine EvP.ite (fun _ => EvP.pos hi (EvP.pos hlt ?_)) (fun _ => ?_)
    · exact EvP.bind (keep_Range s a (-2) 2 h (by omega) (by omega) (by omega)) (fun p hp => EvP.bind (keep_clip _) (fun t ht => put t p.2 hp.1 ht.1 ht.2))
    refine EvP.ite (fun _ => EvP.pos hi (EvP.pos hlt ?_)) (fun _ => ?_)
    · exact EvP.bind (keep_clip _) (fun t ht => put t a h ht.1 ht.2)
    refine EvP.ite (fun _ => EvP.pos hi (EvP.pos hlt ?_)) (fun _ => ?_)
    · exact EvP.bind (keep_clip _) (fun t ht => put t a h ht.1 ht.2)
    refine EvP.ite (fun _ => ?_) (fun _ => ?_)
    · have e1 : wrap64 ((x.length : Int) - 1) = (x.length : Int) - 1 := w64 (by omega) (by omega)
      have e2 : wrap64 ((x.length : Int) - 1 - i) = (x.length : Int) - 1 - i := w64 (by omega) (by omega)
      rw [e1, e2]
      have hr := hx.at ((x.length : Int) - 1 - i) (by omega) (by omega)
      exact EvP.pos (by omega) (EvP.pos (by omega) (EvP.pos hi (EvP.pos hlt (put _ a h hr.1 hr.2))))
    refine EvP.ite (fun _ => ?_) (fun _ => ?_)
    · refine EvP.bind (keep_Range s a (-1) 1 h (by omega) (by omega) (by omega)) (fun p hp => ?_)
      refine EvP.bind (keep_Mod _ _ (w64_lo _) (w64_hi _) (by omega) (by omega)) (fun t ht => ?_)
      have hr := hx.at t ht.1 ht.2
      exact EvP.pos ht.1 (EvP.pos ht.2 (EvP.pos hi (EvP.pos hlt (put _ p.2 hp.1 hr.1 hr.2))))
    refine EvP.ite (fun _ => EvP.pos hi (EvP.pos hlt ?_)) (fun _ => next out a h ho hl)
    exact EvP.bind (keep_clip _) (fun t ht => put t a h ht.1 ht.2)
theorem keep_Near (s : List Int) (a : Int) (x : List Int) (h : Src s a) (hx : Smp x) (hn : 1 ≤ x.length) (hn' : x.length ≤ 100000) : EvP (fun k => shapesearchkeep_Src_Near.f k s a x) (fun r => Src s r.2 ∧ Smp r.1 ∧ r.1.length = x.length) := by
  unfold shapesearchkeep_Src_Near.f
  refine EvP.bind (keep_N s a 7 h (by omega) (by omega)) (fun p hp => EvP.bind (keep_Range s p.2 (-20) 20 hp.1 (by omega) (by omega) (by omega)) (fun q hq => EvP.bind (keep_Range s q.2 1 3 hq.1 (by omega) (by omega) (by omega)) (fun r hr => ?_)))
  refine EvP.bind (Ev.evp (Ev.now _)) (fun y hy => ?_)
  subst hy
  refine EvP.pos (by simp; omega) (EvP.bind (Ev.evp (Ev.now _)) (fun z hz => ?_))
  have hz' : z = x := hz
  rw [hz']
  exact keep_Near_l0 s x p.1 q.1 r.1 hx hn hn' x.length x 0 r.2 hr.1 hx rfl (by omega) (by omega)
theorem keep_Length (s : List Int) (a : Int) (h : Src s a) : EvP (fun _ => shapesearchkeep_Src_Length.f s a) (fun r => Src s r.2 ∧ 2 ≤ r.1 ∧ r.1 ≤ 32) := by
  unfold shapesearchkeep_Src_Length.f
  refine EvP.bind (keep_N s a 8 h (by omega) (by omega)) (fun p hp => EvP.ite (fun _ => ?_) (fun _ => ?_))
  · exact EvP.bind (keep_Range s p.2 13 32 hp.1 (by omega) (by omega) (by omega)) (fun q hq => EvP.ret ⟨hq.1, by have := hq.2; omega⟩)
  · exact EvP.bind (keep_Range s p.2 2 12 hp.1 (by omega) (by omega) (by omega)) (fun q hq => EvP.ret ⟨hq.1, by have := hq.2; omega⟩)
theorem keep_Pair (s : List Int) (a : Int) (h : Src s a) : EvP (fun k => shapesearchkeep_Src_Pair.f k s a) (fun r => Src s r.2.2 ∧ Smp r.1 ∧ Smp r.2.1 ∧ 2 ≤ r.1.length ∧ r.1.length ≤ 32 ∧ r.2.1.length = r.1.length) := by
  unfold shapesearchkeep_Src_Pair.f
  refine EvP.bind (keep_Length s a h) (fun n hn => EvP.bind (keep_List s n.2 n.1 hn.1 (by omega) (by omega)) (fun x hx => EvP.bind (keep_N s x.2 3 hx.1 (by omega) (by omega)) (fun p hp => ?_)))
  obtain ⟨hx0, hx1, hx2⟩ := hx
  refine EvP.ite (fun _ => ?_) (fun _ => ?_)
  · refine EvP.bind (keep_List s p.2 (x.1.length : Int) hp.1 (by omega) (by omega)) (fun y hy => EvP.ret ⟨hy.1, hx1, hy.2.1, by dsimp only; omega, by dsimp only; omega, by have := hy.2.2; dsimp only; omega⟩)
  · exact EvP.bind (keep_Near s p.2 x.1 hp.1 hx1 (by omega) (by omega)) (fun y hy => EvP.ret ⟨hy.1, hx1, hy.2.1, by dsimp only; omega, by dsimp only; omega, hy.2.2⟩)
/-! ### windows, and their distances -/
def lenb (x : List Int) : Bool := decide (2 ≤ x.length ∧ x.length ≤ 32)
def smpb (x : List Int) : Bool := x.all fun v => decide (-1000 ≤ v ∧ v ≤ 1000)
theorem smpb_iff (x : List Int) : smpb x = true ↔ Smp x := by
  unfold smpb Smp
  simp [List.all_eq_true]
theorem euclid_length_is (x : List Int) : euclid_length.f x = some (lenb x) := by
  unfold euclid_length.f lenb
  split
  · rename_i h
    congr 1
    rw [Bool.eq_iff_iff]
    simp
    omega
  · rename_i h
    congr 1
    symm
    simp
    omega
theorem euclid_samples_l0 (x : List Int) (hn : x.length ≤ 1000000000) (d : Nat) : ∀ i : Nat, i + d = x.length → Ev (fun k => euclid_samples.l0 k x (x.length : Int) (i : Int)) (smpb (x.drop i)) := by
  induction d with
  | zero =>
    intro i hi
    refine Ev.step (fun k => by rw [euclid_samples.l0]) (Ev.neg (by omega) ?_)
    rw [List.drop_eq_nil_of_le (by omega)]
    exact Ev.now _
  | succ d ih =>
    intro i hi
    have hlt : i < x.length := by omega
    refine Ev.step (fun k => by rw [euclid_samples.l0]) (Ev.pos (by omega) (Ev.pos (by omega) (Ev.pos (by omega) ?_)))
    have e : wrap64 ((i : Int) + 1) = ((i + 1 : Nat) : Int) := by rw [w64 (by omega) (by omega)]; omega
    rw [rd_nat x i hlt, List.drop_eq_getElem_cons hlt, e]
    have hc : smpb (x[i] :: x.drop (i + 1)) = (decide (-1000 ≤ x[i] ∧ x[i] ≤ 1000) && smpb (x.drop (i + 1))) := by unfold smpb; rw [List.all_cons]
    rw [hc]
    by_cases h1 : x[i] < -1000
    · rw [decide_eq_false (by omega)]
      exact Ev.pos h1 (Ev.now _)
    · refine Ev.neg h1 ?_
      by_cases h2 : x[i] > 1000
      · rw [decide_eq_false (by omega)]
        exact Ev.pos h2 (Ev.now _)
      · refine Ev.neg h2 ?_
        rw [decide_eq_true (by omega), Bool.true_and]
        exact ih (i + 1) (by omega)
theorem euclid_samples_is (x : List Int) (hn : x.length ≤ 1000000000) : Ev (fun k => euclid_samples.f k x) (smpb x) := by
  have := euclid_samples_l0 x hn x.length 0 (by omega)
  exact this
/-- The first error of two windows of one length. -/
def chk (x y : List Int) : Int := if lenb x = true ∧ lenb y = true then (if smpb x = true ∧ smpb y = true then (if x.length = y.length then 0 else 8) else 12) else 8
theorem euclid_check_is (x y : List Int) (hx : x.length ≤ 1000000000) (hy : y.length ≤ 1000000000) : Ev (fun k => euclid_check.f k x y) (chk x y) := by
  unfold chk
  have j1 : ∀ b : Bool, Ev (fun k => euclid_check.j1 k x y b) (if b = true then 12 else if x.length = y.length then 0 else 8) := by
    intro b
    refine Ev.step (fun k => by rw [euclid_check.j1]) ?_
    cases b with
    | true => exact Ev.pos rfl (Ev.now _)
    | false =>
      refine Ev.neg (by simp) ?_
      by_cases h : x.length = y.length
      · have e : (if false = true then (12 : Int) else if x.length = y.length then 0 else 8) = 0 := by simp [h]
        rw [e]
        exact Ev.pos (by omega) (Ev.now _)
      · have e : (if false = true then (12 : Int) else if x.length = y.length then 0 else 8) = 8 := by simp [h]
        rw [e]
        exact Ev.neg (by omega) (Ev.now _)
  have j0 : ∀ b : Bool, Ev (fun k => euclid_check.j0 k x y b) (if b = true then 8 else if smpb x = true ∧ smpb y = true then (if x.length = y.length then 0 else 8) else 12) := by
    intro b
    refine Ev.step (fun k => by rw [euclid_check.j0]) ?_
    cases b with
    | true => exact Ev.pos rfl (Ev.now _)
    | false =>
      refine Ev.neg (by simp) (Ev.bind (euclid_samples_is x hx) ?_)
      rw [if_neg (by simp)]
      cases hsx : smpb x with
      | true =>
        refine Ev.pos rfl (Ev.bind (euclid_samples_is y hy) ?_)
        have := j1 (!smpb y)
        cases hsy : smpb y <;> simpa [hsy] using this
      | false =>
        refine Ev.neg (by simp) ?_
        simpa using j1 true
  unfold euclid_check.f
  rw [euclid_length_is x, euclid_length_is y]
  refine Ev.bind (Ev.now _) ?_
  cases hlx : lenb x with
  | true =>
    refine Ev.pos rfl (Ev.bind (Ev.now _) ?_)
    have := j0 (!lenb y)
    cases hly : lenb y <;> simpa [hly] using this
  | false =>
    refine Ev.neg (by simp) ?_
    simpa using j0 true
theorem euclid_square_l0 (x y : List Int) (hx : Smp x) (hy : Smp y) (hl : x.length = y.length) (hn : x.length ≤ 100000) (d : Nat) :
    ∀ (i : Nat) (s : Int), i + d = x.length → 0 ≤ s → s ≤ 4000000 * i → Ev (fun k => euclid_square.l0 k y s x (x.length : Int) (i : Int)) (s + sqd (x.drop i) (y.drop i)) := by
  induction d with
  | zero =>
    intro i s hi h0 h1
    refine Ev.step (fun k => by rw [euclid_square.l0]) (Ev.neg (by omega) ?_)
    rw [List.drop_eq_nil_of_le (by omega)]
    simp only [sqd, Int.add_zero]
    exact Ev.now _
  | succ d ih =>
    intro i s hi h0 h1
    have hlt : i < x.length := by omega
    have hlt' : i < y.length := by omega
    have bx := hx x[i] (List.getElem_mem _)
    have by_ := hy y[i] (List.getElem_mem _)
    refine Ev.step (fun k => by rw [euclid_square.l0]) (Ev.pos (by omega) (Ev.pos (by omega) (Ev.pos (by omega) (Ev.pos (by omega) ?_))))
    have e : wrap64 ((i : Int) + 1) = ((i + 1 : Nat) : Int) := by rw [w64 (by omega) (by omega)]; omega
    have b1 := sqnn (x[i] - y[i])
    have b2 := abs_sq (a := x[i] - y[i]) (m := 2000) (by omega) (by omega)
    rw [rd_nat x i hlt, rd_nat y i hlt', List.drop_eq_getElem_cons hlt, List.drop_eq_getElem_cons hlt', e]
    have e1 : wrap64 (x[i] - y[i]) = x[i] - y[i] := w64 (by omega) (by omega)
    rw [e1]
    have e2 : wrap64 ((x[i] - y[i]) * (x[i] - y[i])) = (x[i] - y[i]) * (x[i] - y[i]) := w64 (by omega) (by omega)
    rw [e2]
    have e3 : wrap64 (s + (x[i] - y[i]) * (x[i] - y[i])) = s + (x[i] - y[i]) * (x[i] - y[i]) := w64 (by omega) (by omega)
    rw [e3]
    simp only [sqd]
    rw [← Int.add_assoc]
    exact ih (i + 1) _ (by omega) (by omega) (by omega)
theorem euclid_square_is (x y : List Int) (hx : Smp x) (hy : Smp y) (hl : x.length = y.length) (hn : x.length ≤ 100000) : Ev (fun k => euclid_square.f k x y) (sqd x y) := by
  have := euclid_square_l0 x y hx hy hl hn x.length 0 0 (by omega) (by omega) (by omega)
  simp only [List.drop_zero, Int.zero_add] at this
  exact this
theorem chk_ok {x y : List Int} (hx : Smp x) (hy : Smp y) (h2 : 2 ≤ x.length) (h32 : x.length ≤ 32) (hl : x.length = y.length) : chk x y = 0 := by
  unfold chk lenb
  rw [if_pos ⟨decide_eq_true ⟨h2, h32⟩, decide_eq_true (by omega)⟩, if_pos ⟨(smpb_iff x).2 hx, (smpb_iff y).2 hy⟩, if_pos hl]
theorem chk_zero {x y : List Int} (h : chk x y = 0) : Smp x ∧ Smp y ∧ 2 ≤ x.length ∧ x.length ≤ 32 ∧ x.length = y.length := by
  unfold chk at h
  split at h
  · rename_i h1
    split at h
    · rename_i h2
      split at h
      · rename_i h3
        have := of_decide_eq_true h1.1
        exact ⟨(smpb_iff x).1 h2.1, (smpb_iff y).1 h2.2, this.1, this.2, h3⟩
      · omega
    · omega
  · omega
theorem euclid_Distance_is (x y : List Int) (hx : x.length ≤ 1000000000) (hy : y.length ≤ 1000000000) : Ev (fun k => euclid_Distance.f k x y) (if chk x y = 0 then (sqd x y, 0) else (0, chk x y)) := by
  unfold euclid_Distance.f
  refine Ev.bind (euclid_check_is x y hx hy) ?_
  by_cases h : chk x y = 0
  · rw [if_pos h]
    obtain ⟨h1, h2, h3, h4, h5⟩ := chk_zero h
    exact Ev.pos h (Ev.bind (euclid_square_is x y h1 h2 h5 (by omega)) (Ev.now _))
  · rw [if_neg h]
    exact Ev.neg h (Ev.now _)
theorem euclid_Distance_ok {x y : List Int} (hx : Smp x) (hy : Smp y) (h2 : 2 ≤ x.length) (h32 : x.length ≤ 32) (hl : x.length = y.length) : Ev (fun k => euclid_Distance.f k x y) (sqd x y, 0) := by
  have := euclid_Distance_is x y (by omega) (by omega)
  rwa [if_pos (chk_ok hx hy h2 h32 hl)] at this
theorem sqd_big {x y : List Int} (hx : Smp x) (hy : Smp y) (h32 : x.length ≤ 32) : sqd x y ≤ 128000000 := by
  have := sqd_le 1000 x y hx hy
  omega
/-! ### the document's functions (layer 12), for any windows -/
theorem ref12_Samples_l0 (x : List Int) (hn : x.length ≤ 1000000000) (d : Nat) : ∀ i : Nat, i + d = x.length → Ev (fun k => shapesearchref12_Samples.l0 k x (x.length : Int) (i : Int)) (if smpb (x.drop i) = true then 0 else 12) := by
  induction d with
  | zero =>
    intro i hi
    refine Ev.step (fun k => by rw [shapesearchref12_Samples.l0]) (Ev.neg (by omega) ?_)
    rw [List.drop_eq_nil_of_le (by omega)]
    exact Ev.now _
  | succ d ih =>
    intro i hi
    have hlt : i < x.length := by omega
    refine Ev.step (fun k => by rw [shapesearchref12_Samples.l0]) (Ev.pos (by omega) (Ev.pos (by omega) (Ev.pos (by omega) ?_)))
    have e : wrap64 ((i : Int) + 1) = ((i + 1 : Nat) : Int) := by rw [w64 (by omega) (by omega)]; omega
    rw [rd_nat x i hlt, List.drop_eq_getElem_cons hlt, e]
    have hc : smpb (x[i] :: x.drop (i + 1)) = (decide (-1000 ≤ x[i] ∧ x[i] ≤ 1000) && smpb (x.drop (i + 1))) := by unfold smpb; rw [List.all_cons]
    have hs : shapesearchref04_Sample.f x[i] = some (decide (-1000 ≤ x[i] ∧ x[i] ≤ 1000)) := by
      unfold shapesearchref04_Sample.f
      by_cases h1 : x[i] ≥ -1000
      · rw [if_pos h1]
        congr 1
        rw [decide_eq_decide]
        omega
      · rw [if_neg h1, decide_eq_false (by omega)]
    rw [hc, hs]
    refine Ev.bind (Ev.now _) ?_
    by_cases h : -1000 ≤ x[i] ∧ x[i] ≤ 1000
    · rw [decide_eq_true h, Bool.true_and]
      exact Ev.pos rfl (ih (i + 1) (by omega))
    · rw [decide_eq_false h, Bool.false_and]
      exact Ev.neg (by simp) (Ev.now _)
theorem ref12_Samples_is (x : List Int) (hn : x.length ≤ 1000000000) : Ev (fun k => shapesearchref12_Samples.f k x) (if smpb x = true then 0 else 12) := by
  have := ref12_Samples_l0 x hn x.length 0 (by omega)
  exact this
/-! ### bundles of channels -/
/-- Two bundles that fit: as many channels, each of n and of m samples, and a band. -/
structure Fit (p q : List (List Int)) (n m : Nat) (b : Int) : Prop where
  p1 : 1 ≤ p.length
  p4 : p.length ≤ 4
  pq : p.length = q.length
  pr : ∀ x ∈ p, x.length = n ∧ Smp x
  qr : ∀ y ∈ q, y.length = m ∧ Smp y
  n2 : 2 ≤ n ∧ n ≤ 32
  m2 : 2 ≤ m ∧ m ≤ 32
  b0 : 0 ≤ b ∧ b ≤ 32
  nm : (n : Int) - (m : Int) ≤ b ∧ (m : Int) - (n : Int) ≤ b
theorem rdL_mem {p : List (List Int)} {i : Nat} (h : i < p.length) : rd_L1 p (i : Int) ∈ p := by
  show p.getD (i : Int).toNat [] ∈ p
  rw [Int.toNat_natCast, List.getD_eq_getElem?_getD, List.getElem?_eq_getElem h]
  exact List.getElem_mem h
theorem rdL_chn (p : List (List Int)) (i : Nat) : rd_L1 p (i : Int) = X.chn p i := by
  show p.getD (i : Int).toNat [] = p.getD i []
  rw [Int.toNat_natCast]
theorem chn_in {p : List (List Int)} {i : Nat} (h : i < p.length) : X.chn p i ∈ p := by rw [← rdL_chn]; exact rdL_mem h
theorem count_is {p : List (List Int)} (h1 : 1 ≤ p.length) (h4 : p.length ≤ 4) : channels_count.f p = some true := by
  unfold channels_count.f
  rw [if_pos (by omega), decide_eq_true (by omega)]
theorem proper_l1 (Y : List (List (List Int))) (z : Int) (r : List (List Int)) (hr : ∀ x ∈ r, 2 ≤ x.length ∧ x.length ≤ 32 ∧ Smp x) (h4 : r.length ≤ 4) (v : Int) (hn : Ev (fun k => channels_proper.l0 k 0 Y (Y.length : Int) (wrap64 (z + 1))) v) (d : Nat) :
    ∀ j : Nat, j + d = r.length → Ev (fun k => channels_proper.l1 k 0 Y (Y.length : Int) z r (r.length : Int) (j : Int)) v := by
  induction d with
  | zero =>
    intro j hj
    exact Ev.step (fun k => by rw [channels_proper.l1]) (Ev.neg (by omega) hn)
  | succ d ih =>
    intro j hj
    have hlt : j < r.length := by omega
    obtain ⟨h2, h32, hs⟩ := hr _ (rdL_mem hlt)
    refine Ev.step (fun k => by rw [channels_proper.l1]) (Ev.pos (by omega) (Ev.pos (by omega) (Ev.pos (by omega) (Ev.bind (euclid_Distance_ok hs hs h2 h32 rfl) ?_))))
    refine Ev.neg (by simp) ?_
    rw [show mx 0 0 = 0 from rfl]
    rw [show wrap64 ((j : Int) + 1) = ((j + 1 : Nat) : Int) by rw [w64 (by omega) (by omega)]; omega]
    exact ih (j + 1) (by omega)
theorem proper_l0 (Y : List (List (List Int))) (z z' v : Int) (r : List (List Int)) (hz : 0 ≤ z) (hY : z < (Y.length : Int)) (hr0 : rd_L2 Y z = r) (hz' : wrap64 (z + 1) = z') (hr : ∀ x ∈ r, 2 ≤ x.length ∧ x.length ≤ 32 ∧ Smp x) (h4 : r.length ≤ 4) (hn : Ev (fun k => channels_proper.l0 k 0 Y (Y.length : Int) z') v) : Ev (fun k => channels_proper.l0 k 0 Y (Y.length : Int) z) v := by
  subst hr0
  subst hz'
  refine Ev.step (fun k => by rw [channels_proper.l0]) (Ev.pos hY (Ev.pos hz (Ev.pos hY ?_)))
  exact proper_l1 Y z _ hr h4 v hn _ 0 (Nat.zero_add _)
theorem proper_is {p q : List (List Int)} (hp : ∀ x ∈ p, 2 ≤ x.length ∧ x.length ≤ 32 ∧ Smp x) (hq : ∀ x ∈ q, 2 ≤ x.length ∧ x.length ≤ 32 ∧ Smp x) (h4 : p.length ≤ 4) (h4' : q.length ≤ 4) : Ev (fun k => channels_proper.f k p q) 0 := by
  have e2 : Ev (fun k => channels_proper.l0 k 0 [p, q] (([p, q] : List (List (List Int))).length : Int) 2) 0 := Ev.step (fun k => by rw [channels_proper.l0]) (Ev.neg (by simp) (Ev.now _))
  unfold channels_proper.f
  simp only [Option.bind_some]
  exact proper_l0 [p, q] 0 1 0 p (by omega) (by simp) rfl (w64 (by omega) (by omega)) hp h4 (proper_l0 [p, q] 1 2 0 q (by omega) (by simp) rfl (w64 (by omega) (by omega)) hq h4' e2)
theorem even_l0 (p : List (List Int)) (n : Nat) (hr : ∀ x ∈ p, x.length = n) (h4 : p.length ≤ 4) (d : Nat) : ∀ j : Nat, j + d = p.length → Ev (fun k => channels_even.l0 k p p (p.length : Int) (j : Int)) true := by
  induction d with
  | zero =>
    intro j hj
    exact Ev.step (fun k => by rw [channels_even.l0]) (Ev.neg (by omega) (Ev.now _))
  | succ d ih =>
    intro j hj
    have hlt : j < p.length := by omega
    have h1 := hr _ (rdL_mem hlt)
    have h0 := hr _ (rdL_mem (p := p) (i := 0) (by omega))
    refine Ev.step (fun k => by rw [channels_even.l0]) (Ev.pos (by omega) (Ev.pos (by omega) (Ev.pos (by omega) (Ev.pos (by omega) (Ev.pos ?_ ?_)))))
    · rw [h1]
      exact congrArg _ h0.symm
    · rw [show wrap64 ((j : Int) + 1) = ((j + 1 : Nat) : Int) by rw [w64 (by omega) (by omega)]; omega]
      exact ih (j + 1) (by omega)
theorem even_is {p : List (List Int)} {n : Nat} (hr : ∀ x ∈ p, x.length = n) (h4 : p.length ≤ 4) : Ev (fun k => channels_even.f k p) true := even_l0 p n hr h4 p.length 0 (by omega)
theorem check_is {p q : List (List Int)} {n m : Nat} {b : Int} (h : Fit p q n m b) : Ev (fun k => channels_check.f k p q b) 0 := by
  have n2 := h.n2
  have m2 := h.m2
  have b0 := h.b0
  have h0 := (h.pr _ (rdL_mem (p := p) (i := 0) (by have := h.p1; omega))).1
  have h1 := (h.qr _ (rdL_mem (p := q) (i := 0) (by have := h.p1; have := h.pq; omega))).1
  unfold channels_check.f
  refine Ev.neg (by omega) ?_
  rw [count_is h.p1 h.p4, count_is (by have := h.p1; have := h.pq; omega) (by have := h.p4; have := h.pq; omega)]
  simp only [Option.bind_some]
  refine Ev.pos ⟨trivial, trivial⟩ (Ev.bind (proper_is (fun x hx => by have := h.pr x hx; exact ⟨by omega, by omega, this.2⟩) (fun x hx => by have := h.qr x hx; exact ⟨by omega, by omega, this.2⟩) h.p4 (by have := h.p4; have := h.pq; omega)) (Ev.pos rfl ?_))
  refine Ev.bind (even_is (fun x hx => (h.pr x hx).1) h.p4) (Ev.bind (even_is (fun x hx => (h.qr x hx).1) (by have := h.p4; have := h.pq; omega)) (Ev.pos ⟨rfl, rfl, h.pq, ?_, ?_⟩ (Ev.now _)))
  · have := h.nm; simp only [Int.natCast_zero] at h0 h1; rw [h0, h1]; omega
  · have := h.nm; simp only [Int.natCast_zero] at h0 h1; rw [h0, h1]; omega
theorem okc_is {p q : List (List Int)} {n m : Nat} {b : Int} (h : Fit p q n m b) : X.OkC p q b := by
  have n2 := h.n2
  have m2 := h.m2
  have b0 := h.b0
  have h0 := (h.pr _ (chn_in (p := p) (i := 0) (by have := h.p1; omega))).1
  have h1 := (h.qr _ (chn_in (p := q) (i := 0) (by have := h.p1; have := h.pq; omega))).1
  have hn := h.nm
  refine ⟨⟨b0.1, b0.2, ?_⟩, ⟨h.p1, h.p4, h.pq⟩, ⟨by omega, by omega, by omega, by omega⟩, fun x hx => ⟨by rw [h0]; exact (h.pr x hx).1, (h.pr x hx).2⟩, fun x hx => ⟨by rw [h1]; exact (h.qr x hx).1, (h.qr x hx).2⟩⟩
  rw [h0, h1]
  unfold MathWp.near
  omega
theorem Apart_is {p q : List (List Int)} {n m : Nat} {b : Int} (h : Fit p q n m b) : Ev (fun k => channels_Apart.f k p q b) (X.apart p q b, 0) := by
  unfold channels_Apart.f
  refine Ev.bind (check_is h) (Ev.pos rfl ?_)
  rw [if_pos (okc_is h)]
  exact Ev.now _
theorem Together_is {p q : List (List Int)} {n m : Nat} {b : Int} (h : Fit p q n m b) : Ev (fun k => channels_Together.f k p q b) (X.together p q b, 0) := by
  unfold channels_Together.f
  refine Ev.bind (check_is h) (Ev.pos rfl ?_)
  rw [if_pos (okc_is h)]
  exact Ev.now _
theorem awake_is : Ev (fun k => shapesearchlaw16_awake.f k) true := Ev.of shapesearchlaw16_awake.mono (k := 60) (by decide +kernel)
theorem Fit.chp {p q : List (List Int)} {n m : Nat} {b : Int} (h : Fit p q n m b) {i : Nat} (hi : i < p.length) : (X.chn p i).length = n ∧ Smp (X.chn p i) := h.pr _ (chn_in hi)
theorem Fit.chq {p q : List (List Int)} {n m : Nat} {b : Int} (h : Fit p q n m b) {i : Nat} (hi : i < p.length) : (X.chn q i).length = m ∧ Smp (X.chn q i) := h.qr _ (chn_in (by rw [← h.pq]; exact hi))
/-! ### how bundles are made -/
theorem keep_Uneven_j0 (s x y : List Int) (a : Int) (h : Src s a) (hx : Smp x) (hy : Smp y) (hx2 : 2 ≤ x.length) (hx32 : x.length ≤ 32) (hy2 : 2 ≤ y.length) (hyx : y.length ≤ x.length) :
    EvP (fun k => shapesearchkeep_Src_Uneven.j0 k x y s a) (fun r => Src s r.2.2.2 ∧ Smp r.1 ∧ Smp r.2.1 ∧ 2 ≤ r.1.length ∧ r.1.length ≤ 32 ∧ 2 ≤ r.2.1.length ∧ r.2.1.length ≤ 32 ∧ 0 ≤ r.2.2.1 ∧ r.2.2.1 ≤ 32 ∧ (r.1.length : Int) - (r.2.1.length : Int) ≤ r.2.2.1 ∧ (r.2.1.length : Int) - (r.1.length : Int) ≤ r.2.2.1) := by
  refine EvP.step (fun k => by rw [shapesearchkeep_Src_Uneven.j0]) (EvP.bind (keep_N s a 4 h (by omega) (by omega)) (fun c hc => EvP.bind (keep_N s c.2 5 hc.1 (by omega) (by omega)) (fun e he => ?_)))
  have hc1 := hc.2.1
  have hc2 := hc.2.2
  have hb : mn 32 (wrap64 (wrap64 ((x.length : Int) - (y.length : Int)) + c.1)) = mn 32 ((x.length : Int) - (y.length : Int) + c.1) := by rw [w64 (n := (x.length : Int) - (y.length : Int)) (by omega) (by omega), w64 (by omega) (by omega)]
  have hb0 : 0 ≤ mn 32 ((x.length : Int) - (y.length : Int) + c.1) ∧ mn 32 ((x.length : Int) - (y.length : Int) + c.1) ≤ 32 ∧ (x.length : Int) - (y.length : Int) ≤ mn 32 ((x.length : Int) - (y.length : Int) + c.1) := by unfold mn; split <;> omega
  refine EvP.ite (fun _ => EvP.bind (keep_N s e.2 2 he.1 (by omega) (by omega)) (fun g hg => EvP.ite (fun _ => EvP.ret ?_) (fun _ => EvP.ret ?_))) (fun _ => EvP.bind (keep_N s e.2 2 he.1 (by omega) (by omega)) (fun g hg => EvP.ite (fun _ => EvP.ret ?_) (fun _ => EvP.ret ?_)))
  · exact ⟨hg.1, hy, hx, hy2, by dsimp only; omega, hx2, hx32, by dsimp only; omega, by dsimp only; omega, by dsimp only; omega, by dsimp only; omega⟩
  · exact ⟨hg.1, hx, hy, hx2, hx32, hy2, by dsimp only; omega, by dsimp only; omega, by dsimp only; omega, by dsimp only; omega, by dsimp only; omega⟩
  · dsimp only
    rw [hb]
    exact ⟨hg.1, hy, hx, hy2, by omega, hx2, hx32, by omega, by omega, by omega, by omega⟩
  · dsimp only
    rw [hb]
    exact ⟨hg.1, hx, hy, hx2, hx32, hy2, by omega, by omega, by omega, by omega, by omega⟩
theorem keep_Uneven (s : List Int) (a : Int) (h : Src s a) : EvP (fun k => shapesearchkeep_Src_Uneven.f k s a) (fun r => Src s r.2.2.2 ∧ Smp r.1 ∧ Smp r.2.1 ∧ 2 ≤ r.1.length ∧ r.1.length ≤ 32 ∧ 2 ≤ r.2.1.length ∧ r.2.1.length ≤ 32 ∧ 0 ≤ r.2.2.1 ∧ r.2.2.1 ≤ 32 ∧ (r.1.length : Int) - (r.2.1.length : Int) ≤ r.2.2.1 ∧ (r.2.1.length : Int) - (r.1.length : Int) ≤ r.2.2.1) := by
  unfold shapesearchkeep_Src_Uneven.f
  refine EvP.bind (keep_Pair s a h) (fun p hp => ?_)
  obtain ⟨h1, h2, h3, h4, h5, h6⟩ := hp
  refine EvP.bind (keep_N s p.2.2 2 h1 (by omega) (by omega)) (fun c hc => EvP.ite (fun _ => ?_) (fun _ => keep_Uneven_j0 s p.1 p.2.1 c.2 hc.1 h2 h3 h4 h5 (by omega) (by omega)))
  refine EvP.bind (keep_Range s c.2 2 (p.2.1.length : Int) hc.1 (by omega) (by omega) (by omega)) (fun e he => EvP.pos (by have := he.2; omega) (EvP.pos he.2.2 ?_))
  have := he.2
  have hl : (p.2.1.take e.1.toNat).length = e.1.toNat := by rw [List.length_take]; omega
  exact keep_Uneven_j0 s p.1 _ e.2 he.1 h2 (h3.take _) h4 h5 (by omega) (by omega)
theorem bundles_el (x y L z : List Int) (s : Int) (h : Src L s) (hz : Smp z) (hzx : z.length = x.length) (hx : 2 ≤ x.length ∧ x.length ≤ 32) (hy : 2 ≤ y.length ∧ y.length ≤ 32) : EvP (fun k => shapesearchlaw16_bundles.el k x y L z s) (fun r => Src L r.2 ∧ Smp r.1 ∧ r.1.length = y.length) := by
  unfold shapesearchlaw16_bundles.el
  have hl : ∀ s, Src L s → EvP (fun k => shapesearchkeep_Src_List.f k L s (y.length : Int)) (fun r => Src L r.2 ∧ Smp r.1 ∧ r.1.length = y.length) := fun s hs => EvP.mono (keep_List L s (y.length : Int) hs (by omega) (by omega)) (fun r hr => ⟨hr.1, hr.2.1, by have := hr.2.2; omega⟩)
  refine EvP.ite (fun he => EvP.bind (keep_N L s 2 h (by omega) (by omega)) (fun c hc => EvP.ite (fun _ => ?_) (fun _ => hl _ hc.1))) (fun _ => hl _ h)
  exact EvP.mono (keep_Near L c.2 z hc.1 hz (by omega) (by omega)) (fun r hr => ⟨hr.1, hr.2.1, by omega⟩)
theorem bundles_go (x y L : List Int) (hx : Smp x) (hx2 : 2 ≤ x.length ∧ x.length ≤ 32) (hy2 : 2 ≤ y.length ∧ y.length ≤ 32) (i : Nat) : ∀ (p q : List (List Int)) (s : Int), Src L s → p.length = q.length → (∀ v ∈ p, v.length = x.length ∧ Smp v) → (∀ v ∈ q, v.length = y.length ∧ Smp v) →
    EvP (fun k => shapesearchlaw16_bundles.go k x y L i p q s) (fun r => Src L r.2.2 ∧ r.1.length = p.length + i ∧ r.1.length = r.2.1.length ∧ (∀ v ∈ r.1, v.length = x.length ∧ Smp v) ∧ (∀ v ∈ r.2.1, v.length = y.length ∧ Smp v)) := by
  induction i with
  | zero => intro p q s hs hl hp hq; exact EvP.ret ⟨hs, rfl, hl, hp, hq⟩
  | succ i ih =>
    intro p q s hs hl hp hq
    refine EvP.congr (fun k => by rw [shapesearchlaw16_bundles.go]) (EvP.bind (keep_Near L s x hs hx (by omega) (by omega)) (fun z hz => EvP.bind (bundles_el x y L z.1 z.2 hz.1 hz.2.1 hz.2.2 hx2 hy2) (fun v hv => ?_)))
    refine EvP.mono (ih _ _ _ hv.1 (by simp [hl]) (fun u hu => ?_) (fun u hu => ?_)) (fun r hr => ⟨hr.1, by rw [hr.2.1]; simp; omega, hr.2.2⟩)
    · rcases List.mem_append.1 hu with hu | hu
      · exact hp u hu
      · rw [List.mem_singleton.1 hu]; exact ⟨hz.2.2, hz.2.1⟩
    · rcases List.mem_append.1 hu with hu | hu
      · exact hq u hu
      · rw [List.mem_singleton.1 hu]; exact ⟨hv.2.2, hv.2.1⟩
theorem bundles_is (s : List Int) (a : Int) (h : Src s a) : EvP (fun k => shapesearchlaw16_bundles.f k s a) (fun r => ∃ n m, Fit r.1 r.2.1 n m r.2.2.1) := by
  unfold shapesearchlaw16_bundles.f
  refine EvP.bind (keep_Uneven s a h) (fun u hu => ?_)
  obtain ⟨h1, h2, h3, h4, h5, h6, h7, h8, h9, h10, h11⟩ := hu
  refine EvP.bind (keep_N s u.2.2.2 4 h1 (by omega) (by omega)) (fun c hc => EvP.pos ⟨hc.2.1, by have := hc.2.2; omega⟩ ?_)
  refine EvP.bind (bundles_go u.1 u.2.1 s h2 ⟨h4, h5⟩ ⟨h6, h7⟩ c.1.toNat [u.1] [u.2.1] c.2 hc.1 rfl (fun v hv => by rw [List.mem_singleton.1 hv]; exact ⟨rfl, h2⟩) (fun v hv => by rw [List.mem_singleton.1 hv]; exact ⟨rfl, h3⟩)) (fun r hr => EvP.ret ⟨u.1.length, u.2.1.length, ?_⟩)
  have hl := hr.2.1
  simp at hl
  exact ⟨by dsimp only; omega, by have := hc.2.2; have := hc.2.1; dsimp only; omega, hr.2.2.1, hr.2.2.2.1, hr.2.2.2.2, ⟨h4, h5⟩, ⟨h6, h7⟩, ⟨h8, h9⟩, ⟨h10, h11⟩⟩
/-! ### sums over channels -/
def euSum (p q : List (List Int)) : Nat → Int
  | 0 => 0
  | k + 1 => euSum p q k + sqd (X.chn p k) (X.chn q k)
theorem sqd_small {x y : List Int} (hx : Smp x) (hy : Smp y) (h32 : x.length ≤ 32) : 0 ≤ sqd x y ∧ sqd x y ≤ 128000000 := ⟨sqd_nonneg x y, sqd_big hx hy h32⟩
theorem euSum_b {p q : List (List Int)} {n m : Nat} {b : Int} (h : Fit p q n m b) : ∀ k, k ≤ p.length → 0 ≤ euSum p q k ∧ euSum p q k ≤ 128000000 * (k : Int)
  | 0, _ => by simp [euSum]
  | k + 1, hk => by
    have ih := euSum_b h k (by omega)
    have hp := h.chp (i := k) (by omega)
    have hq := h.chq (i := k) (by omega)
    have := sqd_small hp.2 hq.2 (by have := h.n2; omega)
    simp only [euSum]
    omega
theorem Euclid_l1 (p q : List (List Int)) (z : Int) (x y : List Int) (L v : Int) (hz : 0 ≤ z) (hzq : z < (q.length : Int)) (hy0 : rd_L1 q z = y) (hx : Smp x) (hy : Smp y) (hl : x.length = y.length) (hn : x.length ≤ 32) (d : Nat) :
    ∀ (i : Nat) (s : Int), i + d = x.length → 0 ≤ s → s ≤ 1000000000 + 4000000 * i → Ev (fun k => channels_Euclid.l0 k p q (s + sqd (x.drop i) (y.drop i)) L (wrap64 (z + 1))) (v, 0) → Ev (fun k => channels_Euclid.l1 k p q s z L z x (x.length : Int) (i : Int)) (v, 0) := by
  subst hy0
  induction d with
  | zero =>
    intro i s hi h0 h1 hE
    refine Ev.step (fun k => by rw [channels_Euclid.l1]) (Ev.neg (by omega) ?_)
    rw [List.drop_eq_nil_of_le (by omega)] at hE
    simp only [sqd, Int.add_zero] at hE
    exact hE
  | succ d ih =>
    intro i s hi h0 h1 hE
    have hlt : i < x.length := by omega
    have hlt' : i < (rd_L1 q z).length := by omega
    have bx := hx x[i] (List.getElem_mem _)
    have by_ := hy (rd_L1 q z)[i] (List.getElem_mem _)
    refine Ev.step (fun k => by rw [channels_Euclid.l1]) (Ev.pos (by omega) (Ev.pos (by omega) (Ev.pos (by omega) (Ev.pos hz (Ev.pos hzq (Ev.pos (by omega) ?_))))))
    have e : wrap64 ((i : Int) + 1) = ((i + 1 : Nat) : Int) := by rw [w64 (by omega) (by omega)]; omega
    have b1 := sqnn (x[i] - (rd_L1 q z)[i])
    have b2 := abs_sq (a := x[i] - (rd_L1 q z)[i]) (m := 2000) (by omega) (by omega)
    rw [rd_nat x i hlt, rd_nat (rd_L1 q z) i hlt', e]
    rw [List.drop_eq_getElem_cons hlt, List.drop_eq_getElem_cons hlt'] at hE
    simp only [sqd] at hE
    rw [← Int.add_assoc] at hE
    have e1 : wrap64 (x[i] - (rd_L1 q z)[i]) = x[i] - (rd_L1 q z)[i] := w64 (by omega) (by omega)
    have e2 : wrap64 ((x[i] - (rd_L1 q z)[i]) * (x[i] - (rd_L1 q z)[i])) = (x[i] - (rd_L1 q z)[i]) * (x[i] - (rd_L1 q z)[i]) := w64 (by omega) (by omega)
    have e3 : wrap64 (s + (x[i] - (rd_L1 q z)[i]) * (x[i] - (rd_L1 q z)[i])) = s + (x[i] - (rd_L1 q z)[i]) * (x[i] - (rd_L1 q z)[i]) := w64 (by omega) (by omega)
    unfold channels_square.f
    simp only [Option.bind_some]
    rw [e1, e2, e3]
    exact ih (i + 1) _ (by omega) (by omega) (by omega) hE
theorem Euclid_l0 {p q : List (List Int)} {n : Nat} {b : Int} (h : Fit p q n n b) (d : Nat) : ∀ i : Nat, i + d = p.length → Ev (fun k => channels_Euclid.l0 k p q (euSum p q i) (p.length : Int) (i : Int)) (euSum p q p.length, 0) := by
  induction d with
  | zero =>
    intro i hi
    obtain rfl : i = p.length := by omega
    exact Ev.step (fun k => by rw [channels_Euclid.l0]) (Ev.neg (by omega) (Ev.now _))
  | succ d ih =>
    intro i hi
    have hp := h.chp (i := i) (by omega)
    have hq := h.chq (i := i) (by omega)
    have hb := euSum_b h i (by omega)
    have h4 := h.p4
    have hpq := h.pq
    have hn := h.n2
    refine Ev.step (fun k => by rw [channels_Euclid.l0]) (Ev.pos (by omega) (Ev.pos (by omega) (Ev.pos (by omega) ?_)))
    rw [rdL_chn p i]
    refine Euclid_l1 p q (i : Int) _ (X.chn q i) (p.length : Int) _ (by omega) (by omega) (rdL_chn q i) hp.2 hq.2 (by rw [hp.1, hq.1]) (by omega) (X.chn p i).length 0 (euSum p q i) (by omega) hb.1 (by omega) ?_
    rw [show wrap64 ((i : Int) + 1) = ((i + 1 : Nat) : Int) by rw [w64 (by omega) (by omega)]; omega]
    simp only [List.drop_zero]
    exact ih (i + 1) (by omega)
theorem Euclid_is {p q : List (List Int)} {n : Nat} {b : Int} (h : Fit p q n n b) : Ev (fun k => channels_Euclid.f k p q) (euSum p q p.length, 0) := by
  unfold channels_Euclid.f
  have h0 : Fit p q n n 0 := ⟨h.p1, h.p4, h.pq, h.pr, h.qr, h.n2, h.m2, ⟨by omega, by omega⟩, ⟨by omega, by omega⟩⟩
  refine Ev.bind (check_is h0) (Ev.pos rfl ?_)
  exact Euclid_l0 h p.length 0 (by omega)
theorem cst_nn {p q : List (List Int)} {n m : Nat} {b : Int} (h : Fit p q n m b) (k i j : Nat) : 0 ≤ X.cst p q k i j ∧ X.cst p q k i j ≤ 4000000 := X.cst_b (fun x hx => (h.pr x hx).2) (fun x hx => (h.qr x hx).2) k i j
theorem Fit.len0 {p q : List (List Int)} {n m : Nat} {b : Int} (h : Fit p q n m b) : (X.chn p 0).length = n ∧ (X.chn q 0).length = m := ⟨(h.chp (i := 0) (by have := h.p1; omega)).1, (h.chq (i := 0) (by have := h.p1; omega)).1⟩
theorem Fit.near {p q : List (List Int)} {n m : Nat} {b : Int} (h : Fit p q n m b) : MathWp.near b (n - 1) (m - 1) := by
  have := h.nm
  have := h.n2
  have := h.m2
  unfold MathWp.near
  omega
theorem tab_small {p q : List (List Int)} {n m : Nat} {b : Int} (h : Fit p q n m b) (k : Nat) : 0 ≤ MathWp.tab b (X.cst p q k) (n - 1) (m - 1) ∧ MathWp.tab b (X.cst p q k) (n - 1) (m - 1) ≤ 300000000 := by
  refine ⟨MathWp.tab_nn (fun i j => (cst_nn h k i j).1) _ _, ?_⟩
  have := MathWp.tab_bound (M := 4000000) h.b0.1 (by omega) (fun i j => (cst_nn h k i j).2) _ (n - 1) (m - 1) rfl h.near
  have := h.n2
  have := h.m2
  omega
theorem Fit.one {p q : List (List Int)} {n m : Nat} {b : Int} (h : Fit p q n m b) {i : Nat} (hi : i < p.length) : Fit [X.chn p i] [X.chn q i] n m b :=
  ⟨by simp, by simp, rfl, fun x hx => by rw [List.mem_singleton.1 hx]; exact h.chp hi, fun x hx => by rw [List.mem_singleton.1 hx]; exact h.chq hi, h.n2, h.m2, h.b0, h.nm⟩
theorem apart_one {p q : List (List Int)} {n m : Nat} {b : Int} (h : Fit p q n m b) {i : Nat} (hi : i < p.length) : X.apart [X.chn p i] [X.chn q i] b = MathWp.tab b (X.cst p q i) (n - 1) (m - 1) := by
  have h1 := h.one hi
  show X.apSum [X.chn p i] [X.chn q i] b 1 = _
  simp only [X.apSum]
  rw [h1.len0.1, h1.len0.2, Int.zero_add]
  rfl
/-! ### the document's warping distance is the corner of the table -/
theorem chn_set (P : List (List Int)) (i r : Nat) (R : List Int) (hi : i < P.length) : X.chn (P.set i R) r = if r = i then R else X.chn P r := by
  unfold X.chn
  rw [List.getD_eq_getElem?_getD, List.getD_eq_getElem?_getD, List.getElem?_set]
  by_cases h : r = i
  · subst h; rw [if_pos rfl, if_pos hi, if_pos rfl]; rfl
  · rw [if_neg (fun e => h e.symm), if_neg h]
theorem getD_set' (L : List Int) (j c : Nat) (v : Int) (hj : j < L.length) : (L.set j v).getD c 0 = if c = j then v else L.getD c 0 := by
  rw [List.getD_eq_getElem?_getD, List.getD_eq_getElem?_getD, List.getElem?_set]
  by_cases h : c = j
  · subst h; rw [if_pos rfl, if_pos hj, if_pos rfl]; rfl
  · rw [if_neg (fun e => h e.symm), if_neg h]
theorem rd_getD (L : List Int) (c : Nat) : rd L (c : Int) = L.getD c 0 := by
  unfold rd
  rw [Int.toNat_natCast]
/-- A table of which the places before one are filled. -/
structure Tb (b : Int) (C : Nat → Nat → Int) (n m : Nat) (P : List (List Int)) (i j : Nat) : Prop where
  len : P.length = n
  row : ∀ r, r < n → (X.chn P r).length = m
  val : ∀ r c, r < n → c < m → (r < i ∨ (r = i ∧ c < j)) → MathWp.near b r c → (X.chn P r).getD c 0 = MathWp.tab b C r c
theorem Tb.put {b : Int} {C : Nat → Nat → Int} {n m : Nat} {P : List (List Int)} {i j : Nat} (h : Tb b C n m P i j) (hi : i < n) (hj : j < m) (v : Int) : Tb b C n m (P.set i ((X.chn P i).set j v)) i j := by
  have hiP : i < P.length := by rw [h.len]; exact hi
  have hjP : j < (X.chn P i).length := by rw [h.row i hi]; exact hj
  refine ⟨by rw [List.length_set, h.len], fun r hr => ?_, fun r c hr hc ho hn => ?_⟩
  · rw [chn_set P i r _ hiP]
    by_cases e : r = i
    · rw [if_pos e, List.length_set, h.row i hi]
    · rw [if_neg e, h.row r hr]
  · rw [chn_set P i r _ hiP]
    by_cases e : r = i
    · rw [if_pos e, getD_set' _ j c v hjP, if_neg (by omega)]
      subst e
      exact h.val r c hr hc ho hn
    · rw [if_neg e]
      exact h.val r c hr hc ho hn
theorem Tb.fill {b : Int} {C : Nat → Nat → Int} {n m : Nat} {P : List (List Int)} {i j : Nat} (h : Tb b C n m P i j) (hi : i < n) (hj : j < m) (v : Int) (hv : v = MathWp.tab b C i j) : Tb b C n m (P.set i ((X.chn P i).set j v)) i (j + 1) := by
  have hiP : i < P.length := by rw [h.len]; exact hi
  have hjP : j < (X.chn P i).length := by rw [h.row i hi]; exact hj
  have h2 := h.put hi hj v
  refine ⟨h2.len, h2.row, fun r c hr hc ho hn => ?_⟩
  by_cases e : r = i ∧ c = j
  · rw [chn_set P i r _ hiP, if_pos e.1, getD_set' _ j c v hjP, if_pos e.2, hv, e.1, e.2]
  · exact h2.val r c hr hc (by omega) hn
theorem Tb.skip {b : Int} {C : Nat → Nat → Int} {n m : Nat} {P : List (List Int)} {i j : Nat} (h : Tb b C n m P i j) (hn : ¬ MathWp.near b i j) : Tb b C n m P i (j + 1) :=
  ⟨h.len, h.row, fun r c hr hc ho hh => by
    by_cases e : r = i ∧ c = j
    · rw [e.1, e.2] at hh; exact absurd hh hn
    · exact h.val r c hr hc (by omega) hh⟩
theorem out_is (n m r c : Nat) (b : Int) (hr : r < n) (hc : c < m) (hn : n ≤ 32) (hm : m ≤ 32) : shapesearchref14_out.f (n : Int) (m : Int) b (r : Int) (c : Int) = some (decide (¬ MathWp.near b r c)) := by
  unfold shapesearchref14_out.f
  rw [if_neg (by omega), if_neg (by omega), if_neg (by omega), if_neg (by omega), w64 (by omega) (by omega), w64 (by omega) (by omega)]
  unfold MathWp.near
  by_cases h : (r : Int) - (c : Int) > b
  · rw [if_pos h, decide_eq_true (by omega)]
  · rw [if_neg h]
    congr 1
    rw [decide_eq_decide]
    omega
theorem out_neg (n m : Nat) (r c b : Int) (h : r < 0 ∨ c < 0) : shapesearchref14_out.f (n : Int) (m : Int) b r c = some true := by
  unfold shapesearchref14_out.f
  by_cases h1 : r < 0
  · rw [if_pos h1]
  · rw [if_neg h1, if_pos (by omega)]
/-- What the table answers at a place. -/
def tv (b : Int) (C : Nat → Nat → Int) (r c : Int) : Int := if r < 0 ∨ c < 0 then 4611686018427387904 else MathWp.tab b C r.toNat c.toNat
theorem At_is {b : Int} {C : Nat → Nat → Int} {n m : Nat} {P : List (List Int)} {i j : Nat} (h : Tb b C n m P i j) (hi : i < n) (hj : j < m) (hn : n ≤ 32) (hm : m ≤ 32) (r c : Int) (hr : r ≤ i) (hc : c ≤ j) (hne : r < i ∨ c < j) : shapesearchref14_At.f P b r c = some (tv b C r c) := by
  have h0 : ((rd_L1 P 0).length : Int) = (m : Int) := by have := h.row 0 (by omega); rw [← rdL_chn] at this; exact congrArg _ this
  unfold shapesearchref14_At.f tv
  rw [if_neg (by have := h.len; omega), if_pos (by have := h.len; omega), h0, h.len]
  by_cases hl : r < 0 ∨ c < 0
  · rw [out_neg _ _ _ _ _ hl, if_pos hl]
    rfl
  · obtain ⟨r', rfl⟩ := Int.eq_ofNat_of_zero_le (show 0 ≤ r by omega)
    obtain ⟨c', rfl⟩ := Int.eq_ofNat_of_zero_le (show 0 ≤ c by omega)
    rw [out_is n m r' c' b (by omega) (by omega) hn hm, if_neg hl]
    simp only [Option.bind_some, Int.toNat_natCast]
    by_cases hnr : MathWp.near b r' c'
    · rw [if_neg (by rw [decide_eq_false (fun h => h hnr)]; simp), if_pos (by omega), if_pos (by omega), if_pos (by omega)]
      have hrow := h.row r' (by omega)
      rw [rdL_chn, if_pos (by rw [hrow]; omega), rd_getD, h.val r' c' (by omega) (by omega) (by omega) hnr]
    · rw [if_pos (by rw [decide_eq_true hnr]), MathWp.tab_is, if_neg hnr]
theorem tv_bst (b : Int) (C : Nat → Nat → Int) (i j : Nat) (hij : 0 < i + j) : MathWp.bst b C i j = min (min (tv b C ((i : Int) - 1) ((j : Int) - 1)) (tv b C ((i : Int) - 1) (j : Int))) (tv b C (i : Int) ((j : Int) - 1)) := by
  unfold tv
  cases i with
  | zero =>
    cases j with
    | zero => omega
    | succ j =>
      rw [if_pos (by omega), if_pos (by omega), if_neg (by omega)]
      have := MathWp.tab_le_inf b C 0 j
      simp only [MathWp.bst, show (((0 : Nat) : Int)).toNat = 0 from rfl, show (((j + 1 : Nat) : Int) - 1).toNat = j by omega]
      omega
  | succ i =>
    cases j with
    | zero =>
      rw [if_pos (by omega), if_neg (by omega), if_pos (by omega)]
      have := MathWp.tab_le_inf b C i 0
      simp only [MathWp.bst, show (((0 : Nat) : Int)).toNat = 0 from rfl, show (((i + 1 : Nat) : Int) - 1).toNat = i by omega]
      omega
    | succ j =>
      rw [if_neg (by omega), if_neg (by omega), if_neg (by omega)]
      have := MathWp.tab_le_inf b C (i + 1) j
      simp only [MathWp.bst, Int.toNat_natCast, show (((i + 1 : Nat) : Int) - 1).toNat = i by omega, show (((j + 1 : Nat) : Int) - 1).toNat = j by omega]
      omega
theorem Before_is {b : Int} {C : Nat → Nat → Int} {n m : Nat} {P : List (List Int)} {i j : Nat} (h : Tb b C n m P i j) (hi : i < n) (hj : j < m) (hn : n ≤ 32) (hm : m ≤ 32) (hij : 0 < i + j) :
    ∃ q : Int × Int, shapesearchref14_Before.f P b (i : Int) (j : Int) = some q ∧ shapesearchref14_At.f P b q.1 q.2 = some (MathWp.bst b C i j) := by
  have hA := At_is h hi hj hn hm
  have w1 : wrap64 ((i : Int) - 1) = (i : Int) - 1 := w64 (by omega) (by omega)
  have w2 : wrap64 ((j : Int) - 1) = (j : Int) - 1 := w64 (by omega) (by omega)
  have d := hA ((i : Int) - 1) ((j : Int) - 1) (by omega) (by omega) (by omega)
  have u := hA ((i : Int) - 1) (j : Int) (by omega) (by omega) (by omega)
  have l := hA (i : Int) ((j : Int) - 1) (by omega) (by omega) (by omega)
  have hb := tv_bst b C i j hij
  unfold shapesearchref14_Before.f shapesearchref14_Before.two
  rw [w1, w2, u, d]
  simp only [Option.bind_some]
  by_cases h1 : tv b C ((i : Int) - 1) (j : Int) < tv b C ((i : Int) - 1) ((j : Int) - 1)
  · rw [if_pos h1, l]
    simp only [Option.bind_some]
    rw [u]
    simp only [Option.bind_some]
    by_cases h2 : tv b C (i : Int) ((j : Int) - 1) < tv b C ((i : Int) - 1) (j : Int)
    · rw [if_pos h2]; exact ⟨_, rfl, by rw [l, hb]; congr 1; omega⟩
    · rw [if_neg h2]; exact ⟨_, rfl, by rw [u, hb]; congr 1; omega⟩
  · rw [if_neg h1, l]
    simp only [Option.bind_some]
    rw [d]
    simp only [Option.bind_some]
    by_cases h2 : tv b C (i : Int) ((j : Int) - 1) < tv b C ((i : Int) - 1) ((j : Int) - 1)
    · rw [if_pos h2]; exact ⟨_, rfl, by rw [l, hb]; congr 1; omega⟩
    · rw [if_neg h2]; exact ⟨_, rfl, by rw [d, hb]; congr 1; omega⟩
/-- Costs of pairs, as rows. -/
structure Cs (C : Nat → Nat → Int) (n m : Nat) (X_ : List (List Int)) : Prop where
  len : X_.length = n
  row : ∀ r, r < n → (X.chn X_ r).length = m
  val : ∀ r c, r < n → c < m → (X.chn X_ r).getD c 0 = C r c
theorem Fill_l2 {b : Int} {C : Nat → Nat → Int} {n m : Nat} {X_ : List (List Int)} (hX : Cs C n m X_) (hb : 0 ≤ b) (hC : ∀ i j, 0 ≤ C i j ∧ C i j ≤ 16000000) (hn : n ≤ 32) (hm : m ≤ 32) {i : Nat} (hi : i < n) {Q : List (List Int) → Prop} (d : Nat) :
    ∀ (j : Nat) (P : List (List Int)), j + d = m → Tb b C n m P i j → (∀ P', Tb b C n m P' (i + 1) 0 → EvP (fun k => shapesearchref14_Fill.l1 k X_ b P' (n : Int) ((i + 1 : Nat) : Int)) Q) → EvP (fun k => shapesearchref14_Fill.l2 k X_ b P (i : Int) (n : Int) (i : Int) (m : Int) (j : Int)) Q := by
  induction d with
  | zero =>
    intro j P hj hP hN
    refine EvP.step (fun k => by rw [shapesearchref14_Fill.l2]) (EvP.neg (by omega) ?_)
    rw [w_succ (by omega)]
    exact hN P ⟨hP.len, hP.row, fun r c hr hc ho hh => hP.val r c hr hc (by omega) hh⟩
  | succ d ih =>
    intro j P hj hP hN
    have hjm : j < m := by omega
    have hXl := hX.len
    have hPl := hP.len
    have hXr : (rd_L1 X_ (i : Int)).length = m := by rw [rdL_chn]; exact hX.row i hi
    have hPr : (rd_L1 P (i : Int)).length = m := by rw [rdL_chn]; exact hP.row i hi
    have hv : rd (rd_L1 X_ (i : Int)) (j : Int) = C i j := by rw [rdL_chn, rd_getD]; exact hX.val i j hi hjm
    have hc := hC i j
    refine EvP.step (fun k => by rw [shapesearchref14_Fill.l2]) (EvP.pos (by omega) (EvP.pos (by omega) (EvP.pos (by omega) ?_)))
    rw [hXr, hXl, out_is n m i j b hi hjm hn hm, hv, w_succ (i := j) (by omega)]
    refine EvP.bind1 (Ev.now _) ?_
    by_cases hnr : MathWp.near b i j
    · refine EvP.neg (by rw [decide_eq_false (fun h => h hnr)]; simp) ?_
      refine EvP.pos (by omega) (EvP.pos (by omega) (EvP.pos (by omega) (EvP.pos (by omega) ?_)))
      simp only [Int.toNat_natCast]
      rw [rdL_chn P i, w64 (n := (i : Int) + (j : Int)) (by omega) (by omega)]
      refine EvP.bind1 (Ev.now _) ?_
      have hY := hP.put hi hjm (C i j)
      have hiP : i < P.length := by omega
      have hjP : j < (X.chn P i).length := by rw [hP.row i hi]; exact hjm
      by_cases hij : 0 < i + j
      · obtain ⟨q, hq1, hq2⟩ := Before_is hY hi hjm hn hm hij
        have hYr : X.chn (P.set i ((X.chn P i).set j (C i j))) i = (X.chn P i).set j (C i j) := by rw [chn_set P i i _ hiP, if_pos rfl]
        have htb := MathWp.tab_bound (M := 16000000) hb (by omega) (fun i j => (hC i j).2) _ i j rfl hnr
        have hnn := MathWp.bst_nn (b := b) (fun i j => (hC i j).1) i j
        have hti := MathWp.tab_is b C i j
        rw [if_pos hnr] at hti
        refine EvP.pos (by omega) ?_
        rw [hq1]
        refine EvP.bind1 (Ev.now _) ?_
        rw [hq2, rdL_chn, hYr]
        refine EvP.pos (by rw [List.length_set]; omega) (EvP.bind1 (Ev.now _) ?_)
        rw [rd_getD, getD_set' _ j j _ hjP, if_pos rfl, w64 (by omega) (by omega)]
        have hF := (hP.put hi hjm (C i j)).fill hi hjm (C i j + MathWp.bst b C i j) (by omega)
        rw [hYr] at hF
        exact ih (j + 1) _ (by omega) hF hN
      · obtain rfl : i = 0 := by omega
        obtain rfl : j = 0 := by omega
        refine EvP.neg (by omega) ?_
        have hti := MathWp.tab_is b C 0 0
        rw [if_pos hnr] at hti
        simp only [MathWp.bst] at hti
        exact ih 1 _ (by omega) (hP.fill hi hjm (C 0 0) (by omega)) hN
    · refine EvP.pos (by rw [decide_eq_true hnr]) ?_
      exact ih (j + 1) P (by omega) (hP.skip hnr) hN
theorem Fill_l1 {b : Int} {C : Nat → Nat → Int} {n m : Nat} {X_ : List (List Int)} (hX : Cs C n m X_) (hb : 0 ≤ b) (hC : ∀ i j, 0 ≤ C i j ∧ C i j ≤ 16000000) (hn : n ≤ 32) (hm : m ≤ 32) (d : Nat) :
    ∀ (i : Nat) (P : List (List Int)), i + d = n → Tb b C n m P i 0 → EvP (fun k => shapesearchref14_Fill.l1 k X_ b P (n : Int) (i : Int)) (fun P' => Tb b C n m P' n 0) := by
  induction d with
  | zero =>
    intro i P hi hP
    obtain rfl : i = n := by omega
    exact EvP.step (fun k => by rw [shapesearchref14_Fill.l1]) (EvP.neg (by omega) (EvP.ret hP))
  | succ d ih =>
    intro i P hi hP
    have hXl := hX.len
    have hXr : (rd_L1 X_ (i : Int)).length = m := by rw [rdL_chn]; exact hX.row i (by omega)
    refine EvP.step (fun k => by rw [shapesearchref14_Fill.l1]) (EvP.pos (by omega) (EvP.pos (by omega) (EvP.pos (by omega) ?_)))
    rw [hXr]
    exact Fill_l2 hX hb hC hn hm (by omega) m 0 P (by omega) hP (fun P' hP' => ih (i + 1) P' (by omega) hP')
theorem Fill_l0 {b : Int} {C : Nat → Nat → Int} {n m : Nat} {X_ : List (List Int)} (hX : Cs C n m X_) (hb : 0 ≤ b) (hC : ∀ i j, 0 ≤ C i j ∧ C i j ≤ 16000000) (hn : n ≤ 32) (hm : m ≤ 32) (d : Nat) :
    ∀ (i : Nat) (P : List (List Int)), i + d = n → P.length = n → (∀ r, r < i → (X.chn P r).length = m) → EvP (fun k => shapesearchref14_Fill.l0 k X_ b P (n : Int) (i : Int)) (fun P' => Tb b C n m P' n 0) := by
  have hXl := hX.len
  induction d with
  | zero =>
    intro i P hi hP hr
    obtain rfl : i = n := by omega
    refine EvP.step (fun k => by rw [shapesearchref14_Fill.l0]) (EvP.neg (by omega) ?_)
    rw [hXl]
    exact Fill_l1 hX hb hC hn hm i 0 P (by omega) ⟨hP, hr, fun r c _ _ ho => by omega⟩
  | succ d ih =>
    intro i P hi hP hr
    have hXr : (rd_L1 X_ (i : Int)).length = m := by rw [rdL_chn]; exact hX.row i (by omega)
    refine EvP.step (fun k => by rw [shapesearchref14_Fill.l0]) (EvP.pos (by omega) (EvP.pos (by omega) (EvP.pos (by omega) ?_)))
    rw [hXr]
    refine EvP.pos (by omega) (EvP.pos (by omega) (EvP.pos (by omega) ?_))
    rw [w_succ (by omega)]
    simp only [Int.toNat_natCast]
    refine ih (i + 1) _ (by omega) (by rw [List.length_set]; exact hP) (fun r h => ?_)
    rw [chn_set P i r _ (by omega)]
    by_cases e : r = i
    · rw [if_pos e, List.length_replicate]
    · rw [if_neg e]; exact hr r (by omega)
theorem Fill_is {b : Int} {C : Nat → Nat → Int} {n m : Nat} {X_ : List (List Int)} (hX : Cs C n m X_) (hb : 0 ≤ b) (hC : ∀ i j, 0 ≤ C i j ∧ C i j ≤ 16000000) (hn : n ≤ 32) (hm : m ≤ 32) : EvP (fun k => shapesearchref14_Fill.f k X_ b) (fun P' => Tb b C n m P' n 0) := by
  have hXl := hX.len
  unfold shapesearchref14_Fill.f
  refine EvP.pos (by omega) (EvP.pos (by omega) ?_)
  rw [hXl]
  simp only [Int.toNat_natCast]
  exact Fill_l0 hX hb hC hn hm n 0 _ (by omega) (by rw [List.length_replicate]) (fun r h => by omega)
/-! ### costs -/
def sqC (x y : List Int) (r c : Nat) : Int := (x.getD r 0 - y.getD c 0) * (x.getD r 0 - y.getD c 0)
structure Co (x y : List Int) (O : List (List Int)) (i j : Nat) : Prop where
  len : O.length = x.length
  row : ∀ r, r < x.length → (X.chn O r).length = if r < i then y.length else if r = i then j else 0
  val : ∀ r c, r < x.length → (r < i ∧ c < y.length ∨ r = i ∧ c < j) → (X.chn O r).getD c 0 = sqC x y r c
theorem getD_snoc (L : List Int) (v : Int) (c : Nat) : (L ++ [v]).getD c 0 = if c < L.length then L.getD c 0 else if c = L.length then v else 0 := by
  rw [List.getD_eq_getElem?_getD, List.getD_eq_getElem?_getD, List.getElem?_append]
  by_cases h : c < L.length
  · rw [if_pos h, if_pos h]
  · rw [if_neg h, if_neg h]
    by_cases e : c = L.length
    · rw [if_pos e, e, Nat.sub_self]; rfl
    · rw [if_neg e, List.getElem?_eq_none (by rw [List.length_singleton]; omega)]; rfl
theorem sqC_b {x y : List Int} (hx : Smp x) (hy : Smp y) (r c : Nat) : 0 ≤ sqC x y r c ∧ sqC x y r c ≤ 4000000 := X.cst_b (l0 := [x]) (l1 := [y]) (fun z hz => by rw [List.mem_singleton.1 hz]; exact hx) (fun z hz => by rw [List.mem_singleton.1 hz]; exact hy) 0 r c
theorem Costs_l1 {x y : List Int} (hx : Smp x) (hy : Smp y) (hn : x.length ≤ 32) (hm : y.length ≤ 32) {i : Nat} (hi : i < x.length) {Q : List (List Int) → Prop} (d : Nat) :
    ∀ (j : Nat) (O : List (List Int)), j + d = y.length → Co x y O i j → (∀ O', Co x y O' (i + 1) 0 → EvP (fun k => shapesearchref14_Costs.l0 k x y O' (x.length : Int) ((i + 1 : Nat) : Int)) Q) → EvP (fun k => shapesearchref14_Costs.l1 k x y O (i : Int) (x.length : Int) (i : Int) (y.length : Int) (j : Int)) Q := by
  induction d with
  | zero =>
    intro j O hj hO hN
    obtain rfl : j = y.length := by omega
    refine EvP.step (fun k => by rw [shapesearchref14_Costs.l1]) (EvP.neg (by omega) ?_)
    rw [w_succ (by omega)]
    refine hN O ⟨hO.len, fun r hr => ?_, fun r c hr ho => hO.val r c hr (by omega)⟩
    rw [hO.row r hr]
    by_cases h1 : r < i
    · rw [if_pos h1, if_pos (by omega)]
    · rw [if_neg h1]
      by_cases h2 : r = i
      · rw [if_pos h2, if_pos (by omega)]
      · rw [if_neg h2, if_neg (by omega)]; split <;> rfl
  | succ d ih =>
    intro j O hj hO hN
    have hjm : j < y.length := by omega
    have hOl := hO.len
    have hOr : (X.chn O i).length = j := by rw [hO.row i hi, if_neg (by omega), if_pos rfl]
    have hb := sqC_b hx hy i j
    have bx := hx.at (i : Int) (by omega) (by omega)
    have by_ := hy.at (j : Int) (by omega) (by omega)
    refine EvP.step (fun k => by rw [shapesearchref14_Costs.l1]) (EvP.pos (by omega) (EvP.pos (by omega) (EvP.pos (by omega) (EvP.pos (by omega) (EvP.pos (by omega) (EvP.pos (by omega) ?_))))))
    rw [rdL_chn, w_succ (by omega)]
    refine EvP.pos (by omega) ?_
    rw [rd_getD] at bx by_
    rw [rd_getD, rd_getD, w64 (n := x.getD i 0 - y.getD j 0) (by omega) (by omega), w64 (n := (x.getD i 0 - y.getD j 0) * (x.getD i 0 - y.getD j 0)) (by unfold sqC at hb; omega) (by unfold sqC at hb; omega)]
    simp only [Int.toNat_natCast]
    refine ih (j + 1) _ (by omega) ⟨by rw [List.length_set]; exact hOl, fun r hr => ?_, fun r c hr ho => ?_⟩ hN
    · rw [chn_set O i r _ (by omega)]
      by_cases e : r = i
      · rw [if_pos e, List.length_append, List.length_singleton, hOr, if_neg (by omega), if_pos e]
      · rw [if_neg e, hO.row r hr]
        by_cases h1 : r < i
        · rw [if_pos h1, if_pos h1]
        · rw [if_neg h1, if_neg h1, if_neg e, if_neg e]
    · rw [chn_set O i r _ (by omega)]
      by_cases e : r = i
      · rw [if_pos e, getD_snoc, hOr]
        by_cases h1 : c < j
        · rw [if_pos h1, ← e]; exact hO.val r c hr (by omega)
        · rw [if_neg h1, if_pos (by omega), e, show c = j by omega]; rfl
      · rw [if_neg e]; exact hO.val r c hr (by omega)
theorem Costs_l0 {x y : List Int} (hx : Smp x) (hy : Smp y) (hn : x.length ≤ 32) (hm : y.length ≤ 32) (d : Nat) :
    ∀ (i : Nat) (O : List (List Int)), i + d = x.length → Co x y O i 0 → EvP (fun k => shapesearchref14_Costs.l0 k x y O (x.length : Int) (i : Int)) (fun O' => Cs (sqC x y) x.length y.length O') := by
  induction d with
  | zero =>
    intro i O hi hO
    obtain rfl : i = x.length := by omega
    refine EvP.step (fun k => by rw [shapesearchref14_Costs.l0]) (EvP.neg (by omega) (EvP.ret ⟨hO.len, fun r hr => ?_, fun r c hr hc => hO.val r c hr (by omega)⟩))
    rw [hO.row r hr, if_pos hr]
  | succ d ih =>
    intro i O hi hO
    refine EvP.step (fun k => by rw [shapesearchref14_Costs.l0]) (EvP.pos (by omega) ?_)
    exact Costs_l1 hx hy hn hm (by omega) y.length 0 O (by omega) hO (fun O' hO' => ih (i + 1) O' (by omega) hO')
theorem Costs_is {x y : List Int} (hx : Smp x) (hy : Smp y) (hn : x.length ≤ 32) (hm : y.length ≤ 32) : EvP (fun k => shapesearchref14_Costs.f k x y) (fun O' => Cs (sqC x y) x.length y.length O') := by
  unfold shapesearchref14_Costs.f
  refine EvP.pos (by omega) (EvP.pos (by omega) ?_)
  simp only [Int.toNat_natCast]
  refine Costs_l0 hx hy hn hm x.length 0 _ (by omega) ⟨by rw [List.length_replicate], fun r hr => ?_, fun r c _ ho => by omega⟩
  have : X.chn (List.replicate x.length []) r = [] := by
    unfold X.chn
    rw [List.getD_eq_getElem?_getD, List.getElem?_replicate, if_pos hr]
    rfl
  rw [this, if_neg (by omega)]
  split <;> rfl
/-! ### the distance -/
theorem ref14_Check_ok {x y : List Int} {b : Int} (hx : Smp x) (hy : Smp y) (hn : 2 ≤ x.length ∧ x.length ≤ 32) (hm : 2 ≤ y.length ∧ y.length ≤ 32) (hb : 0 ≤ b ∧ b ≤ 32) (hnm : (x.length : Int) - (y.length : Int) ≤ b ∧ (y.length : Int) - (x.length : Int) ≤ b) : Ev (fun k => shapesearchref14_Check.f k x y b) 0 := by
  have sx := (smpb_iff x).2 hx
  have sy := (smpb_iff y).2 hy
  have ex := ref12_Samples_is x (by omega)
  have ey := ref12_Samples_is y (by omega)
  rw [if_pos sx] at ex
  rw [if_pos sy] at ey
  unfold shapesearchref14_Check.f
  refine Ev.neg (by omega) (Ev.neg (by omega) (Ev.bind (a := 0) ?_ (Ev.now _)))
  unfold shapesearchref12_Two.f
  rw [decide_eq_false (by omega)]
  refine Ev.neg (by omega) (Ev.neg (by omega) (Ev.neg (by omega) ?_))
  refine Ev.step (fun k => by rw [shapesearchref12_Two.j0]) (Ev.neg (by simp) (Ev.bind ex (Ev.pos rfl (Ev.bind ey ?_))))
  refine Ev.step (fun k => by rw [shapesearchref12_Two.j1]) (Ev.neg (by simp) ?_)
  rw [w64 (n := (x.length : Int) - (y.length : Int)) (by omega) (by omega), w64 (n := (y.length : Int) - (x.length : Int)) (by omega) (by omega)]
  exact Ev.neg (by omega) (Ev.neg (by omega) (Ev.now _))
theorem Distance_is {x y : List Int} {b : Int} (hx : Smp x) (hy : Smp y) (hn : 2 ≤ x.length ∧ x.length ≤ 32) (hm : 2 ≤ y.length ∧ y.length ≤ 32) (hb : 0 ≤ b ∧ b ≤ 32) (hnm : (x.length : Int) - (y.length : Int) ≤ b ∧ (y.length : Int) - (x.length : Int) ≤ b) : Ev (fun k => shapesearchref14_Distance.f k x y b) (MathWp.tab b (sqC x y) (x.length - 1) (y.length - 1), 0) := by
  have e1 : wrap64 ((x.length : Int) - 1) = ((x.length - 1 : Nat) : Int) := by rw [w64 (by omega) (by omega)]; omega
  have e2 : wrap64 ((y.length : Int) - 1) = ((y.length - 1 : Nat) : Int) := by rw [w64 (by omega) (by omega)]; omega
  refine EvP.ev ?_
  unfold shapesearchref14_Distance.f
  rw [e1, e2]
  refine EvP.bind1 (ref14_Check_ok hx hy hn hm hb hnm) (EvP.pos rfl (EvP.bind (Costs_is hx hy hn.2 hm.2) (fun X_ hX => EvP.bind (Fill_is hX hb.1 (fun i j => ⟨(sqC_b hx hy i j).1, by have := (sqC_b hx hy i j).2; omega⟩) hn.2 hm.2) (fun P hP => ?_))))
  have hl := hP.len
  have hr : (rd_L1 P ((x.length - 1 : Nat) : Int)).length = y.length := by rw [rdL_chn]; exact hP.row _ (by omega)
  refine EvP.pos (by omega) (EvP.pos (by omega) (EvP.pos (by omega) (EvP.pos (by omega) (EvP.ret ?_))))
  rw [rdL_chn, rd_getD, hP.val (x.length - 1) (y.length - 1) (by omega) (by omega) (by omega) (by unfold MathWp.near; omega)]
theorem cstAll_nn {p q : List (List Int)} {n m : Nat} {b : Int} (h : Fit p q n m b) (i j : Nat) : ∀ k, 0 ≤ X.cstAll p q k i j ∧ X.cstAll p q k i j ≤ 4000000 * (k : Int)
  | 0 => by simp [X.cstAll]
  | k + 1 => by
    have ih := cstAll_nn h i j k
    have := cst_nn h k i j
    simp only [X.cstAll]
    omega
theorem cstAll_tab {p q : List (List Int)} {n m : Nat} {b : Int} (h : Fit p q n m b) (k : Nat) (hk : k ≤ 4) : MathWp.tab b (X.cstAll p q k) (n - 1) (m - 1) ≤ 2000000000 := by
  have := MathWp.tab_bound (M := 16000000) (c := X.cstAll p q k) h.b0.1 (by omega) (fun i j => by have := (cstAll_nn h i j k).2; omega) _ (n - 1) (m - 1) rfl h.near
  have := h.n2
  have := h.m2
  omega
/-- Apart is at most together. -/
theorem ap_le {p q : List (List Int)} {n m : Nat} {b : Int} (h : Fit p q n m b) : ∀ k, k ≤ 4 → X.apSum p q b k ≤ MathWp.tab b (X.cstAll p q k) (n - 1) (m - 1)
  | 0, _ => by simp only [X.apSum]; exact MathWp.tab_nn (fun i j => (cstAll_nn h i j 0).1) _ _
  | k + 1, hk => by
    have ih := ap_le h k (by omega)
    have e : X.cstAll p q (k + 1) = fun i j => X.cstAll p q k i j + X.cst p q k i j := by funext i j; rfl
    have t := MathWp.tab_add (b := b) (c := X.cstAll p q k) (c' := X.cst p q k) (fun i j => (cstAll_nn h i j k).1) (fun i j => (cst_nn h k i j).1) (n - 1) (m - 1) (by rw [← e]; have := cstAll_tab h (k + 1) hk; omega)
    simp only [X.apSum]
    rw [h.len0.1, h.len0.2, e]
    omega
theorem apart_le {p q : List (List Int)} {n m : Nat} {b : Int} (h : Fit p q n m b) : X.apart p q b ≤ X.together p q b := by
  unfold X.apart X.together
  rw [h.len0.1, h.len0.2]
  exact ap_le h _ h.p4
theorem take_one (p : List (List Int)) (h : 1 ≤ p.length) : p.take 1 = [X.chn p 0] := by
  cases p with
  | nil => simp at h
  | cons a p => rfl
theorem Fit.one0 {p q : List (List Int)} {n m : Nat} {b : Int} (h : Fit p q n m b) : Fit [X.chn p 0] [X.chn q 0] n m b := by
  have h1 := h.p1
  exact ⟨by simp, by simp, rfl, fun x hx => by rw [List.mem_singleton.1 hx]; exact h.chp (by omega), fun x hx => by rw [List.mem_singleton.1 hx]; exact h.chq (by omega), h.n2, h.m2, h.b0, h.nm⟩
theorem apart1 (x y : List Int) (b : Int) : X.apart [x] [y] b = MathWp.tab b (sqC x y) (x.length - 1) (y.length - 1) := by
  show X.apSum [x] [y] b 1 = _
  simp only [X.apSum, Int.zero_add]
  rfl
theorem together1 (x y : List Int) (b : Int) : X.together [x] [y] b = MathWp.tab b (sqC x y) (x.length - 1) (y.length - 1) := by
  unfold X.together
  have e : X.cstAll [x] [y] 1 = sqC x y := by
    funext i j
    simp only [X.cstAll, Int.zero_add]
    rfl
  show MathWp.tab b (X.cstAll [x] [y] 1) _ _ = _
  rw [e]
  rfl
/-- Straight ahead, the costs are the distance. -/
theorem sq_diag : ∀ (n : Nat) (x y : List Int), x.length = n → y.length = n → ((List.range n).map fun k => sqC x y k k).sum = sqd x y
  | 0, x, y, hx, hy => by
    rw [List.eq_nil_of_length_eq_zero hx]
    rfl
  | n + 1, x, y, hx, hy => by
    match x, y, hx, hy with
    | a :: x, b :: y, hx, hy =>
      have ih := sq_diag n x y (by simpa using hx) (by simpa using hy)
      rw [List.range_succ_eq_map, List.map_cons, List.sum_cons, List.map_map]
      have e : ((fun k => sqC (a :: x) (b :: y) k k) ∘ Nat.succ) = fun k => sqC x y k k := by
        funext k
        simp [sqC]
      rw [e, ih]
      simp [sqd, sqC]
theorem sum_add (n : Nat) (f g : Nat → Int) : ((List.range n).map fun k => f k + g k).sum = ((List.range n).map f).sum + ((List.range n).map g).sum := by
  induction n with
  | zero => rfl
  | succ n ih =>
    rw [List.range_succ, List.map_append, List.map_append, List.map_append, List.sum_append, List.sum_append, List.sum_append, ih]
    simp only [List.map_cons, List.map_nil, List.sum_cons, List.sum_nil]
    omega
theorem sum_zero (n : Nat) : ((List.range n).map fun _ => (0 : Int)).sum = 0 := by
  induction n with
  | zero => rfl
  | succ n ih => rw [List.range_succ, List.map_append, List.sum_append, ih]; rfl
theorem all_diag {p q : List (List Int)} {n : Nat} {b : Int} (h : Fit p q n n b) : ∀ K, K ≤ p.length → ((List.range n).map fun k => X.cstAll p q K k k).sum = euSum p q K
  | 0, _ => by
    simp only [X.cstAll, euSum]
    exact sum_zero n
  | K + 1, hK => by
    have ih := all_diag h K (by omega)
    have hp := (h.chp (i := K) (by omega)).1
    have hq := (h.chq (i := K) (by omega)).1
    have s := sq_diag n (X.chn p K) (X.chn q K) hp hq
    have a := sum_add n (fun k => X.cstAll p q K k k) (fun k => X.cst p q K k k)
    simp only [euSum]
    rw [← ih, ← s]
    exact a
theorem together_le {p q : List (List Int)} {n : Nat} {b : Int} (h : Fit p q n n b) : X.together p q b ≤ euSum p q p.length := by
  have t := MathWp.tab_diag (b := b) (c := X.cstAll p q p.length) h.b0.1 (n - 1)
  have n2 := h.n2
  rw [show n - 1 + 1 = n by omega, all_diag h _ (Nat.le_refl _)] at t
  unfold X.together
  rw [h.len0.1, h.len0.2]
  exact t
theorem ChannelsPaths : shapesearchlaw16_ChannelsPaths.Pure := by
  intro l0 h1 h2 h3
  refine EvP.rounds ?_
  unfold shapesearchlaw16_ChannelsPaths.f
  refine EvP.bind (keep_New l0 h3 h1) (fun s hs => EvP.bind (bundles_is s.1 s.2 hs) (fun u hu => ?_))
  obtain ⟨n, m, hf⟩ := hu
  obtain ⟨p, q, b, s1⟩ := u
  dsimp only at hf ⊢
  have p1 := hf.p1
  have p4 := hf.p4
  have pq := hf.pq
  have hap := apart_le hf
  have e1 := Apart_is hf.one0
  have e2 := Together_is hf.one0
  rw [apart1, hf.len0.1, hf.len0.2] at e1
  rw [together1, hf.len0.1, hf.len0.2] at e2
  have cp := hf.chp (i := 0) (by omega)
  have cq := hf.chq (i := 0) (by omega)
  have e3 := Distance_is (b := b) cp.2 cq.2 (by rw [cp.1]; exact hf.n2) (by rw [cq.1]; exact hf.m2) hf.b0 (by rw [cp.1, cq.1]; exact hf.nm)
  rw [cp.1, cq.1] at e3
  rw [take_one p p1, take_one q (by omega)]
  have r0 : rd_L1 p 0 = X.chn p 0 := rdL_chn p 0
  have r1 : rd_L1 q 0 = X.chn q 0 := rdL_chn q 0
  refine EvP.bind1 (Apart_is hf) (EvP.bind1 (Together_is hf) (EvP.pos (by omega) (EvP.pos (by omega) (EvP.bind1 e1 (EvP.bind1 e2 (EvP.pos (by omega) (EvP.pos (by omega) ?_)))))))
  rw [r0, r1]
  refine EvP.bind1 e3 (EvP.pos rfl (EvP.pos rfl (EvP.pos rfl (EvP.pos rfl (EvP.neg (by dsimp only; omega) (EvP.pos rfl ?_))))))
  dsimp only
  rw [show (MathWp.tab b (sqC (X.chn p 0) (X.chn q 0)) (n - 1) (m - 1) != MathWp.tab b (sqC (X.chn p 0) (X.chn q 0)) (n - 1) (m - 1)) = false by simp]
  refine EvP.step (fun k => by rw [shapesearchlaw16_ChannelsPaths.j0]) (EvP.neg (by simp) (EvP.pos (by omega) (EvP.pos (by omega) ?_)))
  rw [r0, r1, cp.1, cq.1]
  by_cases hnm : n = m
  · subst hnm
    exact EvP.pos rfl (EvP.bind1 (Euclid_is hf) (EvP.pos rfl (EvP.pos (together_le hf) (EvP.bind1 awake_is (EvP.ret rfl)))))
  · exact EvP.neg (by omega) (EvP.bind1 awake_is (EvP.ret rfl))

end Go.Proofs.Ytodipcfbgnljeaa.Pure
