/- This file proves that the order of channels does not matter for the distances of bundles. -/
import Derived.Test.YtodipcfbgnljeaaPChannelsOrderx9
import Derived.Test.YtodipcfbgnljeaaBase
import Derived.Test.YtodipcfbgnljeaaMathEu
import Derived.Test.YtodipcfbgnljeaaMathRat
import Derived.Test.YtodipcfbgnljeaaMathNo
import Derived.Test.YtodipcfbgnljeaaMathWp
set_option linter.unusedVariables false
set_option linter.unusedSimpArgs false
namespace Go.Proofs.Ytodipcfbgnljeaa.Pure
open Go.RowKit Go.Proofs.Ytodipcfbgnljeaa.PChannelsOrder Go.Proofs.YtodipcfbgnljeaaW.PrintWords Go.Proofs.YtodipcfbgnljeaaW.PrintLast Go.Proofs.YtodipcfbgnljeaaW.PrintMore Go.Proofs.Ytodipcfbgnljeaa.Base
/-! ### numbers out of a list -/
theorem keep_New (l0 : List Int) (h : ∀ x ∈ l0,(Lit.int .i64 x).wf = true) (hl : l0.length ≤ maxLen) : EvP (fun _=>shapesearchkeep_New.f l0) (fun r=>Src r.1 r.2):=by
 have e : mn (l0.length : Int) 2000 = ((min l0.length 2000 : Nat) : Int):=by unfold mn;split <;> omega
 unfold shapesearchkeep_New.f
 rw [e]
 refine EvP.pos (by omega) (EvP.pos (by omega) (EvP.ret ?_))
 refine ⟨Int.le_refl _,by omega,by rw [List.length_take];omega,fun x hx=>b_i64 (h x (List.mem_of_mem_take hx))⟩
theorem keep_Raw (s : List Int) (a : Int) (h : Src s a) : EvP (fun _=>shapesearchkeep_Src_Raw.f s a) (fun r=>Src s r.2∧-9223372036854775808 ≤ r.1∧r.1 ≤ 9223372036854775807):=by
 obtain ⟨h0,h1,h2,h3⟩:=h
 unfold shapesearchkeep_Src_Raw.f
 refine EvP.ite (fun hc=>EvP.ret ⟨⟨h0,h1,h2,h3⟩,by omega,by omega⟩) (fun hc=>?_)
 have hw : wrap64 (a + 1) = a + 1:=w64 (by omega) (by omega)
 have hw2 : wrap64 (a + 1 - 1) = a:=by rw [w64 (by omega) (by omega)];omega
 rw [hw,hw2]
 have hm:=h3 _ (rd_mem s a h0 (by omega))
 exact EvP.pos h0 (EvP.pos (by omega) (EvP.ret ⟨⟨by omega,by omega,h2,h3⟩,hm⟩))
theorem keep_Mod (a n : Int) (ha : -9223372036854775808 ≤ a) (ha' : a ≤ 9223372036854775807) (hn : 1 ≤ n) (hn' : n ≤ 9223372036854775807) : EvP (fun _=>shapesearchkeep_Mod.f a n) (fun t=>0 ≤ t∧t < n):=by
 have h1:=Int.tmod_lt_of_pos a (show 0 < n by omega)
 have h2:=Int.lt_tmod_of_pos a (show 0 < n by omega)
 unfold shapesearchkeep_Mod.f
 refine EvP.neg (by omega) (EvP.neg (by omega) (EvP.ite (fun hc=>EvP.ret ?_) (fun hc=>EvP.ret ?_)))
 ·
  rw [w64 (by omega) (by omega)]
  omega
 ·
  omega
theorem keep_N (s : List Int) (a n : Int) (h : Src s a) (hn : 1 ≤ n) (hn' : n ≤ 9223372036854775807) : EvP (fun _=>shapesearchkeep_Src_N.f s a n) (fun r=>Src s r.2∧0 ≤ r.1∧r.1 < n):=by
 unfold shapesearchkeep_Src_N.f
 refine EvP.bind (keep_Raw s a h) (fun x hx=>EvP.bind (keep_Mod x.1 n hx.2.1 hx.2.2 hn hn') (fun t ht=>EvP.ret ⟨hx.1,ht⟩))
theorem keep_Range (s : List Int) (a lo hi : Int) (h : Src s a) (hlo : -1000000000000 ≤ lo) (hlh : lo ≤ hi) (hhi : hi ≤ 1000000000000) : EvP (fun _=>shapesearchkeep_Src_Range.f s a lo hi) (fun r=>Src s r.2∧lo ≤ r.1∧r.1 ≤ hi):=by
 have e1 : wrap64 (hi - lo) = hi - lo:=w64 (by omega) (by omega)
 have e2 : wrap64 (hi - lo + 1) = hi - lo + 1:=w64 (by omega) (by omega)
 unfold shapesearchkeep_Src_Range.f
 rw [e1,e2]
 refine EvP.bind (keep_N s a (hi - lo + 1) h (by omega) (by omega)) (fun x hx=>EvP.ret ⟨hx.1,?_⟩)
 have e3 : wrap64 (lo + x.1) = lo + x.1:=w64 (by omega) (by omega)
 show lo ≤ wrap64 (lo + x.1)∧wrap64 (lo + x.1) ≤ hi
 rw [e3]
 omega
theorem keep_Pick (s : List Int) (a : Int) (l : List Int) (h : Src s a) (hl : 1 ≤ l.length) (hl' : l.length ≤ 1000000) : EvP (fun _=>shapesearchkeep_Src_Pick.f s a l) (fun r=>Src s r.2∧r.1 ∈ l):=by
 unfold shapesearchkeep_Src_Pick.f
 exact EvP.bind (keep_N s a l.length h (by omega) (by omega)) (fun x hx=>EvP.pos hx.2.1 (EvP.pos hx.2.2 (EvP.ret ⟨hx.1,rd_mem l x.1 hx.2.1 hx.2.2⟩)))
theorem keep_clip (x : Int) : EvP (fun _=>shapesearchkeep_clip.f x) (fun t=>-1000 ≤ t∧t ≤ 1000):=by
 unfold shapesearchkeep_clip.f
 refine EvP.ret ⟨le_mn (Int.le_trans (by omega) (le_mx_right _ _)) (by omega),mn_le_right _ _⟩
theorem keep_List_l0 (s : List Int) (n kind size : Int) (hs : 1 ≤ size∧size ≤ 1000) (hn : 0 ≤ n∧n ≤ 100000) (d : Nat) :
  ∀ (x : Int) (out : List Int) (a : Int),Src s a → Smp out → -1000 ≤ x → x ≤ 1000 → out.length + d = n →
   EvP (fun k=>shapesearchkeep_Src_List.l0 k n kind size x out out.length s a) (fun r=>Src s r.2∧Smp r.1∧(r.1.length : Int) = n):=by
 have es : wrap64 (-size) = -size:=w64 (by omega) (by omega)
 induction d with
 | zero =>
  intro x out a h ho hx hx' hd
  refine EvP.step (fun k=>by rw [shapesearchkeep_Src_List.l0]) ?_
  exact EvP.neg (by omega) (EvP.ret ⟨h,ho,by dsimp only;omega⟩)
 | succ d ih =>
  intro x out a h ho hx hx' hd
  have ew : wrap64 ((out.length : Int) + 1) = (out.length : Int) + 1:=w64 (by omega) (by omega)
  have el : ∀ y : Int,(out.length : Int) + 1 = ((out ++ [y]).length : Nat):=fun y=>by simp
  have push : ∀ (x' y a' : Int),Src s a' → -1000 ≤ x' → x' ≤ 1000 → -1000 ≤ y → y ≤ 1000 → EvP (fun k=>shapesearchkeep_Src_List.l0 k n kind size x' (out ++ [y]) (wrap64 ((out.length : Int) + 1)) s a') (fun r=>Src s r.2∧Smp r.1∧(r.1.length : Int) = n):=by
   intro x' y a' ha h1 h2 h3 h4
   rw [ew,el y]
   exact ih x' (out ++ [y]) a' ha (ho.snoc h3 h4) h1 h2 (by simp;omega)
  have hL : out.length < 17592186044416:=by omega
  have j3 : ∀ b : Bool,EvP (fun k=>shapesearchkeep_Src_List.j3 k n kind size x out out.length kind b s a) (fun r=>Src s r.2∧Smp r.1∧(r.1.length : Int) = n):=by
   intro b
   refine EvP.step (fun k=>by rw [shapesearchkeep_Src_List.j3]) ?_
   refine EvP.ite (fun _=>?_) (fun _=>EvP.ite (fun _=>?_) (fun _=>?_))
   ·
    rw [es]
    refine EvP.bind (keep_Range s a (-size) size h (by omega) (by omega) (by omega)) (fun q hq=>?_)
    refine EvP.bind (keep_clip _) (fun t ht=>EvP.pos hL (push t t q.2 hq.1 ht.1 ht.2 ht.1 ht.2))
   ·
    refine EvP.bind (keep_N s a 4 h (by omega) (by omega)) (fun q hq=>EvP.ite (fun _=>?_) (fun _=>EvP.pos hL (push x x q.2 hq.1 hx hx' hx hx')))
    rw [es]
    exact EvP.bind (keep_Range s q.2 (-size) size hq.1 (by omega) (by omega) (by omega)) (fun p hp=>EvP.pos hL (push p.1 p.1 p.2 hp.1 (by omega) (by omega) (by omega) (by omega)))
   ·
    refine EvP.bind (keep_Pick s a [-1000,1000,1000,0] h (by simp) (by simp)) (fun q hq=>EvP.pos hL (push x q.1 q.2 hq.1 hx hx' ?_ ?_)) <;>
    ·
     have:=hq.2
     simp at this
     omega
  have j2 : ∀ b : Bool,EvP (fun k=>shapesearchkeep_Src_List.j2 k n kind size x out out.length kind b s a) (fun r=>Src s r.2∧Smp r.1∧(r.1.length : Int) = n):=by
   intro b
   refine EvP.step (fun k=>by rw [shapesearchkeep_Src_List.j2]) ?_
   refine EvP.ite (fun _=>?_) (fun _=>EvP.ite (fun _=>j3 _) (fun _=>j3 _))
   rw [es]
   exact EvP.bind (keep_Range s a (-size) size h (by omega) (by omega) (by omega)) (fun q hq=>EvP.pos hL (push x q.1 q.2 hq.1 hx hx' (by omega) (by omega)))
  refine EvP.step (fun k=>by rw [shapesearchkeep_Src_List.l0]) ?_
  exact EvP.pos (by omega) (EvP.ite (fun _=>j2 _) (fun _=>j2 _))
theorem keep_List (s : List Int) (a n : Int) (h : Src s a) (hn : 0 ≤ n) (hn' : n ≤ 100000) : EvP (fun k=>shapesearchkeep_Src_List.f k s a n) (fun r=>Src s r.2∧Smp r.1∧(r.1.length : Int) = n):=by
 unfold shapesearchkeep_Src_List.f
 refine EvP.bind (keep_N s a 6 h (by omega) (by omega)) (fun p hp=>EvP.bind (keep_Pick s p.2 [1,3,10,100,1000] hp.1 (by simp) (by simp)) (fun q hq=>?_))
 have hq2 : 1 ≤ q.1∧q.1 ≤ 1000:=by
  have:=hq.2
  simp at this
  omega
 have j0 : ∀ x a',Src s a' → -1000 ≤ x → x ≤ 1000 → EvP (fun k=>shapesearchkeep_Src_List.j0 k n p.1 q.1 x s a') (fun r=>Src s r.2∧Smp r.1∧(r.1.length : Int) = n):=by
  intro x a' ha h1 h2
  refine EvP.step (fun k=>by rw [shapesearchkeep_Src_List.j0]) ?_
  exact keep_List_l0 s n p.1 q.1 hq2 ⟨hn,hn'⟩ n.toNat x [] a' ha Smp.nil h1 h2 (by simp;omega)
 refine EvP.bind (keep_N s q.2 3 hq.1 (by omega) (by omega)) (fun r hr=>EvP.ite (fun _=>?_) (fun _=>j0 0 r.2 hr.1 (by omega) (by omega)))
 exact EvP.bind (keep_Range s r.2 (-1000) 1000 hr.1 (by omega) (by omega) (by omega)) (fun v hv=>j0 v.1 v.2 hv.1 (by omega) (by omega))
theorem keep_Near_l0 (s x : List Int) (kind by_ q : Int) (hx : Smp x) (hn : 1 ≤ x.length) (hn' : x.length ≤ 100000) (d : Nat) :
  ∀ (out : List Int) (i : Int) (a : Int),Src s a → Smp out → out.length = x.length → 0 ≤ i → i + d = x.length →
   EvP (fun k=>shapesearchkeep_Src_Near.l0 k x kind by_ q out (x.length : Int) i s a) (fun r=>Src s r.2∧Smp r.1∧r.1.length = x.length):=by
 induction d with
 | zero =>
  intro out i a h ho hl hi hd
  refine EvP.step (fun k=>by rw [shapesearchkeep_Src_Near.l0]) ?_
  exact EvP.neg (by omega) (EvP.ret ⟨h,ho,hl⟩)
 | succ d ih =>
  intro out i a h ho hl hi hd
  have ew : wrap64 (i + 1) = i + 1:=w64 (by omega) (by omega)
  have next : ∀ (out' : List Int) (a' : Int),Src s a' → Smp out' → out'.length = x.length → EvP (fun k=>shapesearchkeep_Src_Near.l0 k x kind by_ q out' (x.length : Int) (wrap64 (i + 1)) s a') (fun r=>Src s r.2∧Smp r.1∧r.1.length = x.length):=by
   intro out' a' h1 h2 h3
   rw [ew]
   exact ih out' (i + 1) a' h1 h2 h3 (by omega) (by omega)
  have put : ∀ (y a' : Int),Src s a' → -1000 ≤ y → y ≤ 1000 → EvP (fun k=>shapesearchkeep_Src_Near.l0 k x kind by_ q (out.set (i : Int).toNat y) (x.length : Int) (wrap64 (i + 1)) s a') (fun r=>Src s r.2∧Smp r.1∧r.1.length = x.length) :=
   fun y a' h1 h2 h3=>next _ a' h1 (ho.set _ h2 h3) (by simp [hl])
  have hlt : i < (out.length : Int):=by omega
  refine EvP.step (fun k=>by rw [shapesearchkeep_Src_Near.l0]) ?_
  refine EvP.pos (by omega) ?_
  refine EvP.ite (fun _=>EvP.pos hi (EvP.pos hlt ?_)) (fun _=>?_)
  ·
   exact EvP.bind (keep_Range s a (-2) 2 h (by omega) (by omega) (by omega)) (fun p hp=>EvP.bind (keep_clip _) (fun t ht=>put t p.2 hp.1 ht.1 ht.2))
  refine EvP.ite (fun _=>EvP.pos hi (EvP.pos hlt ?_)) (fun _=>?_)
  ·
   exact EvP.bind (keep_clip _) (fun t ht=>put t a h ht.1 ht.2)
  refine EvP.ite (fun _=>EvP.pos hi (EvP.pos hlt ?_)) (fun _=>?_)
  ·
   exact EvP.bind (keep_clip _) (fun t ht=>put t a h ht.1 ht.2)
  refine EvP.ite (fun _=>?_) (fun _=>?_)
  ·
   have e1 : wrap64 ((x.length : Int) - 1) = (x.length : Int) - 1:=w64 (by omega) (by omega)
   have e2 : wrap64 ((x.length : Int) - 1 - i) = (x.length : Int) - 1 - i:=w64 (by omega) (by omega)
   rw [e1,e2]
   have hr:=hx.at ((x.length : Int) - 1 - i) (by omega) (by omega)
   exact EvP.pos (by omega) (EvP.pos (by omega) (EvP.pos hi (EvP.pos hlt (put _ a h hr.1 hr.2))))
  refine EvP.ite (fun _=>?_) (fun _=>?_)
  ·
   refine EvP.bind (keep_Range s a (-1) 1 h (by omega) (by omega) (by omega)) (fun p hp=>?_)
   refine EvP.bind (keep_Mod _ _ (w64_lo _) (w64_hi _) (by omega) (by omega)) (fun t ht=>?_)
   have hr:=hx.at t ht.1 ht.2
   exact EvP.pos ht.1 (EvP.pos ht.2 (EvP.pos hi (EvP.pos hlt (put _ p.2 hp.1 hr.1 hr.2))))
  refine EvP.ite (fun _=>EvP.pos hi (EvP.pos hlt ?_)) (fun _=>next out a h ho hl)
  exact EvP.bind (keep_clip _) (fun t ht=>put t a h ht.1 ht.2)
theorem keep_Near (s : List Int) (a : Int) (x : List Int) (h : Src s a) (hx : Smp x) (hn : 1 ≤ x.length) (hn' : x.length ≤ 100000) : EvP (fun k=>shapesearchkeep_Src_Near.f k s a x) (fun r=>Src s r.2∧Smp r.1∧r.1.length = x.length):=by
 unfold shapesearchkeep_Src_Near.f
 refine EvP.bind (keep_N s a 7 h (by omega) (by omega)) (fun p hp=>EvP.bind (keep_Range s p.2 (-20) 20 hp.1 (by omega) (by omega) (by omega)) (fun q hq=>EvP.bind (keep_Range s q.2 1 3 hq.1 (by omega) (by omega) (by omega)) (fun r hr=>?_)))
 refine EvP.bind (Ev.evp (Ev.now _)) (fun y hy=>?_)
 subst hy
 refine EvP.pos (by simp;omega) (EvP.bind (Ev.evp (Ev.now _)) (fun z hz=>?_))
 have hz' : z = x:=hz
 rw [hz']
 exact keep_Near_l0 s x p.1 q.1 r.1 hx hn hn' x.length x 0 r.2 hr.1 hx rfl (by omega) (by omega)
theorem keep_Length (s : List Int) (a : Int) (h : Src s a) : EvP (fun _=>shapesearchkeep_Src_Length.f s a) (fun r=>Src s r.2∧2 ≤ r.1∧r.1 ≤ 32):=by
 unfold shapesearchkeep_Src_Length.f
 refine EvP.bind (keep_N s a 8 h (by omega) (by omega)) (fun p hp=>EvP.ite (fun _=>?_) (fun _=>?_))
 ·
  exact EvP.bind (keep_Range s p.2 13 32 hp.1 (by omega) (by omega) (by omega)) (fun q hq=>EvP.ret ⟨hq.1,by have:=hq.2;omega⟩)
 ·
  exact EvP.bind (keep_Range s p.2 2 12 hp.1 (by omega) (by omega) (by omega)) (fun q hq=>EvP.ret ⟨hq.1,by have:=hq.2;omega⟩)
theorem keep_Pair (s : List Int) (a : Int) (h : Src s a) : EvP (fun k=>shapesearchkeep_Src_Pair.f k s a) (fun r=>Src s r.2.2∧Smp r.1∧Smp r.2.1∧2 ≤ r.1.length∧r.1.length ≤ 32∧r.2.1.length = r.1.length):=by
 unfold shapesearchkeep_Src_Pair.f
 refine EvP.bind (keep_Length s a h) (fun n hn=>EvP.bind (keep_List s n.2 n.1 hn.1 (by omega) (by omega)) (fun x hx=>EvP.bind (keep_N s x.2 3 hx.1 (by omega) (by omega)) (fun p hp=>?_)))
 obtain ⟨hx0,hx1,hx2⟩:=hx
 refine EvP.ite (fun _=>?_) (fun _=>?_)
 ·
  refine EvP.bind (keep_List s p.2 (x.1.length : Int) hp.1 (by omega) (by omega)) (fun y hy=>EvP.ret ⟨hy.1,hx1,hy.2.1,by dsimp only;omega,by dsimp only;omega,by have:=hy.2.2;dsimp only;omega⟩)
 ·
  exact EvP.bind (keep_Near s p.2 x.1 hp.1 hx1 (by omega) (by omega)) (fun y hy=>EvP.ret ⟨hy.1,hx1,hy.2.1,by dsimp only;omega,by dsimp only;omega,hy.2.2⟩)
/-! ### windows, and their distances -/
def lenb (x : List Int) : Bool:=decide (2 ≤ x.length∧x.length ≤ 32)
def smpb (x : List Int) : Bool:=x.all fun v=>decide (-1000 ≤ v∧v ≤ 1000)
theorem smpb_iff (x : List Int) : smpb x = true ↔ Smp x:=by
 unfold smpb Smp
 simp [List.all_eq_true]
theorem euclid_length_is (x : List Int) : euclid_length.f x = some (lenb x):=by
 unfold euclid_length.f lenb
 split
 ·
  rename_i h
  congr 1
  rw [Bool.eq_iff_iff]
  simp
  omega
 ·
  rename_i h
  congr 1
  symm
  simp
  omega
theorem euclid_samples_l0 (x : List Int) (hn : x.length ≤ 1000000000) (d : Nat) : ∀ i : Nat,i + d = x.length → Ev (fun k=>euclid_samples.l0 k x (x.length : Int) (i : Int)) (smpb (x.drop i)):=by
 induction d with
 | zero =>
  intro i hi
  refine Ev.step (fun k=>by rw [euclid_samples.l0]) (Ev.neg (by omega) ?_)
  rw [List.drop_eq_nil_of_le (by omega)]
  exact Ev.now _
 | succ d ih =>
  intro i hi
  have hlt : i < x.length:=by omega
  refine Ev.step (fun k=>by rw [euclid_samples.l0]) (Ev.pos (by omega) (Ev.pos (by omega) (Ev.pos (by omega) ?_)))
  have e : wrap64 ((i : Int) + 1) = ((i + 1 : Nat) : Int):=by rw [w64 (by omega) (by omega)];omega
  rw [rd_nat x i hlt,List.drop_eq_getElem_cons hlt,e]
  have hc : smpb (x[i] :: x.drop (i + 1)) = (decide (-1000 ≤ x[i]∧x[i] ≤ 1000) && smpb (x.drop (i + 1))):=by unfold smpb;rw [List.all_cons]
  rw [hc]
  by_cases h1 : x[i] < -1000
  ·
   rw [decide_eq_false (by omega)]
   exact Ev.pos h1 (Ev.now _)
  ·
   refine Ev.neg h1 ?_
   by_cases h2 : x[i] > 1000
   ·
    rw [decide_eq_false (by omega)]
    exact Ev.pos h2 (Ev.now _)
   ·
    refine Ev.neg h2 ?_
    rw [decide_eq_true (by omega),Bool.true_and]
    exact ih (i + 1) (by omega)
theorem euclid_samples_is (x : List Int) (hn : x.length ≤ 1000000000) : Ev (fun k=>euclid_samples.f k x) (smpb x):=by
 have:=euclid_samples_l0 x hn x.length 0 (by omega)
 exact this
/-- The first error of two windows of one length. -/
def chk (x y : List Int) : Int:=if lenb x = true∧lenb y = true then (if smpb x = true∧smpb y = true then (if x.length = y.length then 0 else 8) else 12) else 8
theorem euclid_check_is (x y : List Int) (hx : x.length ≤ 1000000000) (hy : y.length ≤ 1000000000) : Ev (fun k=>euclid_check.f k x y) (chk x y):=by
 unfold chk
 have j1 : ∀ b : Bool,Ev (fun k=>euclid_check.j1 k x y b) (if b = true then 12 else if x.length = y.length then 0 else 8):=by
  intro b
  refine Ev.step (fun k=>by rw [euclid_check.j1]) ?_
  cases b with
  | true=>exact Ev.pos rfl (Ev.now _)
  | false =>
   refine Ev.neg (by simp) ?_
   by_cases h : x.length = y.length
   ·
    have e : (if false = true then (12 : Int) else if x.length = y.length then 0 else 8) = 0:=by simp [h]
    rw [e]
    exact Ev.pos (by omega) (Ev.now _)
   ·
    have e : (if false = true then (12 : Int) else if x.length = y.length then 0 else 8) = 8:=by simp [h]
    rw [e]
    exact Ev.neg (by omega) (Ev.now _)
 have j0 : ∀ b : Bool,Ev (fun k=>euclid_check.j0 k x y b) (if b = true then 8 else if smpb x = true∧smpb y = true then (if x.length = y.length then 0 else 8) else 12):=by
  intro b
  refine Ev.step (fun k=>by rw [euclid_check.j0]) ?_
  cases b with
  | true=>exact Ev.pos rfl (Ev.now _)
  | false =>
   refine Ev.neg (by simp) (Ev.bind (euclid_samples_is x hx) ?_)
   rw [if_neg (by simp)]
   cases hsx : smpb x with
   | true =>
    refine Ev.pos rfl (Ev.bind (euclid_samples_is y hy) ?_)
    have:=j1 (!smpb y)
    cases hsy : smpb y <;> simpa [hsy] using this
   | false =>
    refine Ev.neg (by simp) ?_
    simpa using j1 true
 unfold euclid_check.f
 rw [euclid_length_is x,euclid_length_is y]
 refine Ev.bind (Ev.now _) ?_
 cases hlx : lenb x with
 | true =>
  refine Ev.pos rfl (Ev.bind (Ev.now _) ?_)
  have:=j0 (!lenb y)
  cases hly : lenb y <;> simpa [hly] using this
 | false =>
  refine Ev.neg (by simp) ?_
  simpa using j0 true
theorem euclid_square_l0 (x y : List Int) (hx : Smp x) (hy : Smp y) (hl : x.length = y.length) (hn : x.length ≤ 100000) (d : Nat) :
  ∀ (i : Nat) (s : Int),i + d = x.length → 0 ≤ s → s ≤ 4000000 * i → Ev (fun k=>euclid_square.l0 k y s x (x.length : Int) (i : Int)) (s + sqd (x.drop i) (y.drop i)):=by
 induction d with
 | zero =>
  intro i s hi h0 h1
  refine Ev.step (fun k=>by rw [euclid_square.l0]) (Ev.neg (by omega) ?_)
  rw [List.drop_eq_nil_of_le (by omega)]
  simp only [sqd,Int.add_zero]
  exact Ev.now _
 | succ d ih =>
  intro i s hi h0 h1
  have hlt : i < x.length:=by omega
  have hlt' : i < y.length:=by omega
  have bx:=hx x[i] (List.getElem_mem _)
  have by_:=hy y[i] (List.getElem_mem _)
  refine Ev.step (fun k=>by rw [euclid_square.l0]) (Ev.pos (by omega) (Ev.pos (by omega) (Ev.pos (by omega) (Ev.pos (by omega) ?_))))
  have e : wrap64 ((i : Int) + 1) = ((i + 1 : Nat) : Int):=by rw [w64 (by omega) (by omega)];omega
  have b1:=sqnn (x[i] - y[i])
  have b2:=abs_sq (a:=x[i] - y[i]) (m:=2000) (by omega) (by omega)
  rw [rd_nat x i hlt,rd_nat y i hlt',List.drop_eq_getElem_cons hlt,List.drop_eq_getElem_cons hlt',e]
  have e1 : wrap64 (x[i] - y[i]) = x[i] - y[i]:=w64 (by omega) (by omega)
  rw [e1]
  have e2 : wrap64 ((x[i] - y[i]) * (x[i] - y[i])) = (x[i] - y[i]) * (x[i] - y[i]):=w64 (by omega) (by omega)
  rw [e2]
  have e3 : wrap64 (s + (x[i] - y[i]) * (x[i] - y[i])) = s + (x[i] - y[i]) * (x[i] - y[i]):=w64 (by omega) (by omega)
  rw [e3]
  simp only [sqd]
  rw [← Int.add_assoc]
  exact ih (i + 1) _ (by omega) (by omega) (by omega)
theorem euclid_square_is (x y : List Int) (hx : Smp x) (hy : Smp y) (hl : x.length = y.length) (hn : x.length ≤ 100000) : Ev (fun k=>euclid_square.f k x y) (sqd x y):=by
 have:=euclid_square_l0 x y hx hy hl hn x.length 0 0 (by omega) (by omega) (by omega)
 simp only [List.drop_zero,Int.zero_add] at this
 exact this
theorem chk_ok {x y : List Int} (hx : Smp x) (hy : Smp y) (h2 : 2 ≤ x.length) (h32 : x.length ≤ 32) (hl : x.length = y.length) : chk x y = 0:=by
 unfold chk lenb
 rw [if_pos ⟨decide_eq_true ⟨h2,h32⟩,decide_eq_true (by omega)⟩,if_pos ⟨(smpb_iff x).2 hx,(smpb_iff y).2 hy⟩,if_pos hl]
theorem chk_zero {x y : List Int} (h : chk x y = 0) : Smp x∧Smp y∧2 ≤ x.length∧x.length ≤ 32∧x.length = y.length:=by
 unfold chk at h
 split at h
 ·
  rename_i h1
  split at h
  ·
   rename_i h2
   split at h
   ·
    rename_i h3
    have:=of_decide_eq_true h1.1
    exact ⟨(smpb_iff x).1 h2.1,(smpb_iff y).1 h2.2,this.1,this.2,h3⟩
   ·
    omega
  ·
   omega
 ·
  omega
theorem euclid_Distance_is (x y : List Int) (hx : x.length ≤ 1000000000) (hy : y.length ≤ 1000000000) : Ev (fun k=>euclid_Distance.f k x y) (if chk x y = 0 then (sqd x y,0) else (0,chk x y)):=by
 unfold euclid_Distance.f
 refine Ev.bind (euclid_check_is x y hx hy) ?_
 by_cases h : chk x y = 0
 ·
  rw [if_pos h]
  obtain ⟨h1,h2,h3,h4,h5⟩:=chk_zero h
  exact Ev.pos h (Ev.bind (euclid_square_is x y h1 h2 h5 (by omega)) (Ev.now _))
 ·
  rw [if_neg h]
  exact Ev.neg h (Ev.now _)
theorem euclid_Distance_ok {x y : List Int} (hx : Smp x) (hy : Smp y) (h2 : 2 ≤ x.length) (h32 : x.length ≤ 32) (hl : x.length = y.length) : Ev (fun k=>euclid_Distance.f k x y) (sqd x y,0):=by
 have:=euclid_Distance_is x y (by omega) (by omega)
 rwa [if_pos (chk_ok hx hy h2 h32 hl)] at this
theorem sqd_big {x y : List Int} (hx : Smp x) (hy : Smp y) (h32 : x.length ≤ 32) : sqd x y ≤ 128000000:=by
 have:=sqd_le 1000 x y hx hy
 omega
/-! ### bundles of channels -/
/-- Two bundles that fit: as many channels, each of n and of m samples, and a band. -/
structure Fit (p q : List (List Int)) (n m : Nat) (b : Int) : Prop where
 p1 : 1 ≤ p.length
 p4 : p.length ≤ 4
 pq : p.length = q.length
 pr : ∀ x ∈ p,x.length = n∧Smp x
 qr : ∀ y ∈ q,y.length = m∧Smp y
 n2 : 2 ≤ n∧n ≤ 32
 m2 : 2 ≤ m∧m ≤ 32
 b0 : 0 ≤ b∧b ≤ 32
 nm : (n : Int) - (m : Int) ≤ b∧(m : Int) - (n : Int) ≤ b
theorem rdL_mem {p : List (List Int)} {i : Nat} (h : i < p.length) : rd_L1 p (i : Int) ∈ p:=by
 show p.getD (i : Int).toNat [] ∈ p
 rw [Int.toNat_natCast,List.getD_eq_getElem?_getD,List.getElem?_eq_getElem h]
 exact List.getElem_mem h
theorem rdL_chn (p : List (List Int)) (i : Nat) : rd_L1 p (i : Int) = X.chn p i:=by
 show p.getD (i : Int).toNat [] = p.getD i []
 rw [Int.toNat_natCast]
theorem chn_in {p : List (List Int)} {i : Nat} (h : i < p.length) : X.chn p i ∈ p:=by rw [← rdL_chn];exact rdL_mem h
theorem count_is {p : List (List Int)} (h1 : 1 ≤ p.length) (h4 : p.length ≤ 4) : channels_count.f p = some true:=by
 unfold channels_count.f
 rw [if_pos (by omega),decide_eq_true (by omega)]
theorem proper_l1 (Y : List (List (List Int))) (z : Int) (r : List (List Int)) (hr : ∀ x ∈ r,2 ≤ x.length∧x.length ≤ 32∧Smp x) (h4 : r.length ≤ 4) (v : Int) (hn : Ev (fun k=>channels_proper.l0 k 0 Y (Y.length : Int) (wrap64 (z + 1))) v) (d : Nat) :
  ∀ j : Nat,j + d = r.length → Ev (fun k=>channels_proper.l1 k 0 Y (Y.length : Int) z r (r.length : Int) (j : Int)) v:=by
 induction d with
 | zero =>
  intro j hj
  exact Ev.step (fun k=>by rw [channels_proper.l1]) (Ev.neg (by omega) hn)
 | succ d ih =>
  intro j hj
  have hlt : j < r.length:=by omega
  obtain ⟨h2,h32,hs⟩:=hr _ (rdL_mem hlt)
  refine Ev.step (fun k=>by rw [channels_proper.l1]) (Ev.pos (by omega) (Ev.pos (by omega) (Ev.pos (by omega) (Ev.bind (euclid_Distance_ok hs hs h2 h32 rfl) ?_))))
  refine Ev.neg (by simp) ?_
  rw [show mx 0 0 = 0 from rfl]
  rw [show wrap64 ((j : Int) + 1) = ((j + 1 : Nat) : Int) by rw [w64 (by omega) (by omega)];omega]
  exact ih (j + 1) (by omega)
theorem proper_l0 (Y : List (List (List Int))) (z z' v : Int) (r : List (List Int)) (hz : 0 ≤ z) (hY : z < (Y.length : Int)) (hr0 : rd_L2 Y z = r) (hz' : wrap64 (z + 1) = z') (hr : ∀ x ∈ r,2 ≤ x.length∧x.length ≤ 32∧Smp x) (h4 : r.length ≤ 4) (hn : Ev (fun k=>channels_proper.l0 k 0 Y (Y.length : Int) z') v) : Ev (fun k=>channels_proper.l0 k 0 Y (Y.length : Int) z) v:=by
 subst hr0
 subst hz'
 refine Ev.step (fun k=>by rw [channels_proper.l0]) (Ev.pos hY (Ev.pos hz (Ev.pos hY ?_)))
 exact proper_l1 Y z _ hr h4 v hn _ 0 (Nat.zero_add _)
theorem proper_is {p q : List (List Int)} (hp : ∀ x ∈ p,2 ≤ x.length∧x.length ≤ 32∧Smp x) (hq : ∀ x ∈ q,2 ≤ x.length∧x.length ≤ 32∧Smp x) (h4 : p.length ≤ 4) (h4' : q.length ≤ 4) : Ev (fun k=>channels_proper.f k p q) 0:=by
 have e2 : Ev (fun k=>channels_proper.l0 k 0 [p,q] (([p,q] : List (List (List Int))).length : Int) 2) 0:=Ev.step (fun k=>by rw [channels_proper.l0]) (Ev.neg (by simp) (Ev.now _))
 unfold channels_proper.f
 simp only [Option.bind_some]
 exact proper_l0 [p,q] 0 1 0 p (by omega) (by simp) rfl (w64 (by omega) (by omega)) hp h4 (proper_l0 [p,q] 1 2 0 q (by omega) (by simp) rfl (w64 (by omega) (by omega)) hq h4' e2)
theorem even_l0 (p : List (List Int)) (n : Nat) (hr : ∀ x ∈ p,x.length = n) (h4 : p.length ≤ 4) (d : Nat) : ∀ j : Nat,j + d = p.length → Ev (fun k=>channels_even.l0 k p p (p.length : Int) (j : Int)) true:=by
 induction d with
 | zero =>
  intro j hj
  exact Ev.step (fun k=>by rw [channels_even.l0]) (Ev.neg (by omega) (Ev.now _))
 | succ d ih =>
  intro j hj
  have hlt : j < p.length:=by omega
  have h1:=hr _ (rdL_mem hlt)
  have h0:=hr _ (rdL_mem (p:=p) (i:=0) (by omega))
  refine Ev.step (fun k=>by rw [channels_even.l0]) (Ev.pos (by omega) (Ev.pos (by omega) (Ev.pos (by omega) (Ev.pos (by omega) (Ev.pos ?_ ?_)))))
  ·
   rw [h1]
   exact congrArg _ h0.symm
  ·
   rw [show wrap64 ((j : Int) + 1) = ((j + 1 : Nat) : Int) by rw [w64 (by omega) (by omega)];omega]
   exact ih (j + 1) (by omega)
theorem even_is {p : List (List Int)} {n : Nat} (hr : ∀ x ∈ p,x.length = n) (h4 : p.length ≤ 4) : Ev (fun k=>channels_even.f k p) true:=even_l0 p n hr h4 p.length 0 (by omega)
theorem check_is {p q : List (List Int)} {n m : Nat} {b : Int} (h : Fit p q n m b) : Ev (fun k=>channels_check.f k p q b) 0:=by
 have n2:=h.n2
 have m2:=h.m2
 have b0:=h.b0
 have h0:=(h.pr _ (rdL_mem (p:=p) (i:=0) (by have:=h.p1;omega))).1
 have h1:=(h.qr _ (rdL_mem (p:=q) (i:=0) (by have:=h.p1;have:=h.pq;omega))).1
 unfold channels_check.f
 refine Ev.neg (by omega) ?_
 rw [count_is h.p1 h.p4,count_is (by have:=h.p1;have:=h.pq;omega) (by have:=h.p4;have:=h.pq;omega)]
 simp only [Option.bind_some]
 refine Ev.pos ⟨trivial,trivial⟩ (Ev.bind (proper_is (fun x hx=>by have:=h.pr x hx;exact ⟨by omega,by omega,this.2⟩) (fun x hx=>by have:=h.qr x hx;exact ⟨by omega,by omega,this.2⟩) h.p4 (by have:=h.p4;have:=h.pq;omega)) (Ev.pos rfl ?_))
 refine Ev.bind (even_is (fun x hx=>(h.pr x hx).1) h.p4) (Ev.bind (even_is (fun x hx=>(h.qr x hx).1) (by have:=h.p4;have:=h.pq;omega)) (Ev.pos ⟨rfl,rfl,h.pq,?_,?_⟩ (Ev.now _)))
 ·
  have:=h.nm;simp only [Int.natCast_zero] at h0 h1;rw [h0,h1];omega
 ·
  have:=h.nm;simp only [Int.natCast_zero] at h0 h1;rw [h0,h1];omega
theorem okc_is {p q : List (List Int)} {n m : Nat} {b : Int} (h : Fit p q n m b) : X.OkC p q b:=by
 have n2:=h.n2
 have m2:=h.m2
 have b0:=h.b0
 have h0:=(h.pr _ (chn_in (p:=p) (i:=0) (by have:=h.p1;omega))).1
 have h1:=(h.qr _ (chn_in (p:=q) (i:=0) (by have:=h.p1;have:=h.pq;omega))).1
 have hn:=h.nm
 refine ⟨⟨b0.1,b0.2,?_⟩,⟨h.p1,h.p4,h.pq⟩,⟨by omega,by omega,by omega,by omega⟩,fun x hx=>⟨by rw [h0];exact (h.pr x hx).1,(h.pr x hx).2⟩,fun x hx=>⟨by rw [h1];exact (h.qr x hx).1,(h.qr x hx).2⟩⟩
 rw [h0,h1]
 unfold MathWp.near
 omega
theorem Apart_is {p q : List (List Int)} {n m : Nat} {b : Int} (h : Fit p q n m b) : Ev (fun k=>channels_Apart.f k p q b) (X.apart p q b,0):=by
 unfold channels_Apart.f
 refine Ev.bind (check_is h) (Ev.pos rfl ?_)
 rw [if_pos (okc_is h)]
 exact Ev.now _
theorem Together_is {p q : List (List Int)} {n m : Nat} {b : Int} (h : Fit p q n m b) : Ev (fun k=>channels_Together.f k p q b) (X.together p q b,0):=by
 unfold channels_Together.f
 refine Ev.bind (check_is h) (Ev.pos rfl ?_)
 rw [if_pos (okc_is h)]
 exact Ev.now _
theorem awake_is : Ev (fun k=>shapesearchlaw16_awake.f k) true:=Ev.of shapesearchlaw16_awake.mono (k:=60) (by decide +kernel)
theorem Fit.chp {p q : List (List Int)} {n m : Nat} {b : Int} (h : Fit p q n m b) {i : Nat} (hi : i < p.length) : (X.chn p i).length = n∧Smp (X.chn p i):=h.pr _ (chn_in hi)
theorem Fit.chq {p q : List (List Int)} {n m : Nat} {b : Int} (h : Fit p q n m b) {i : Nat} (hi : i < p.length) : (X.chn q i).length = m∧Smp (X.chn q i):=h.qr _ (chn_in (by rw [← h.pq];exact hi))
/-! ### how bundles are made -/
theorem keep_Uneven_j0 (s x y : List Int) (a : Int) (h : Src s a) (hx : Smp x) (hy : Smp y) (hx2 : 2 ≤ x.length) (hx32 : x.length ≤ 32) (hy2 : 2 ≤ y.length) (hyx : y.length ≤ x.length) :
  EvP (fun k=>shapesearchkeep_Src_Uneven.j0 k x y s a) (fun r=>Src s r.2.2.2∧Smp r.1∧Smp r.2.1∧2 ≤ r.1.length∧r.1.length ≤ 32∧2 ≤ r.2.1.length∧r.2.1.length ≤ 32∧0 ≤ r.2.2.1∧r.2.2.1 ≤ 32∧(r.1.length : Int) - (r.2.1.length : Int) ≤ r.2.2.1∧(r.2.1.length : Int) - (r.1.length : Int) ≤ r.2.2.1):=by
 refine EvP.step (fun k=>by rw [shapesearchkeep_Src_Uneven.j0]) (EvP.bind (keep_N s a 4 h (by omega) (by omega)) (fun c hc=>EvP.bind (keep_N s c.2 5 hc.1 (by omega) (by omega)) (fun e he=>?_)))
 have hc1:=hc.2.1
 have hc2:=hc.2.2
 have hb : mn 32 (wrap64 (wrap64 ((x.length : Int) - (y.length : Int)) + c.1)) = mn 32 ((x.length : Int) - (y.length : Int) + c.1):=by rw [w64 (n:=(x.length : Int) - (y.length : Int)) (by omega) (by omega),w64 (by omega) (by omega)]
 have hb0 : 0 ≤ mn 32 ((x.length : Int) - (y.length : Int) + c.1)∧mn 32 ((x.length : Int) - (y.length : Int) + c.1) ≤ 32∧(x.length : Int) - (y.length : Int) ≤ mn 32 ((x.length : Int) - (y.length : Int) + c.1):=by unfold mn;split <;> omega
 refine EvP.ite (fun _=>EvP.bind (keep_N s e.2 2 he.1 (by omega) (by omega)) (fun g hg=>EvP.ite (fun _=>EvP.ret ?_) (fun _=>EvP.ret ?_))) (fun _=>EvP.bind (keep_N s e.2 2 he.1 (by omega) (by omega)) (fun g hg=>EvP.ite (fun _=>EvP.ret ?_) (fun _=>EvP.ret ?_)))
 ·
  exact ⟨hg.1,hy,hx,hy2,by dsimp only;omega,hx2,hx32,by dsimp only;omega,by dsimp only;omega,by dsimp only;omega,by dsimp only;omega⟩
 ·
  exact ⟨hg.1,hx,hy,hx2,hx32,hy2,by dsimp only;omega,by dsimp only;omega,by dsimp only;omega,by dsimp only;omega,by dsimp only;omega⟩
 ·
  dsimp only
  rw [hb]
  exact ⟨hg.1,hy,hx,hy2,by omega,hx2,hx32,by omega,by omega,by omega,by omega⟩
 ·
  dsimp only
  rw [hb]
  exact ⟨hg.1,hx,hy,hx2,hx32,hy2,by omega,by omega,by omega,by omega,by omega⟩
theorem keep_Uneven (s : List Int) (a : Int) (h : Src s a) : EvP (fun k=>shapesearchkeep_Src_Uneven.f k s a) (fun r=>Src s r.2.2.2∧Smp r.1∧Smp r.2.1∧2 ≤ r.1.length∧r.1.length ≤ 32∧2 ≤ r.2.1.length∧r.2.1.length ≤ 32∧0 ≤ r.2.2.1∧r.2.2.1 ≤ 32∧(r.1.length : Int) - (r.2.1.length : Int) ≤ r.2.2.1∧(r.2.1.length : Int) - (r.1.length : Int) ≤ r.2.2.1):=by
 unfold shapesearchkeep_Src_Uneven.f
 refine EvP.bind (keep_Pair s a h) (fun p hp=>?_)
 obtain ⟨h1,h2,h3,h4,h5,h6⟩:=hp
 refine EvP.bind (keep_N s p.2.2 2 h1 (by omega) (by omega)) (fun c hc=>EvP.ite (fun _=>?_) (fun _=>keep_Uneven_j0 s p.1 p.2.1 c.2 hc.1 h2 h3 h4 h5 (by omega) (by omega)))
 refine EvP.bind (keep_Range s c.2 2 (p.2.1.length : Int) hc.1 (by omega) (by omega) (by omega)) (fun e he=>EvP.pos (by have:=he.2;omega) (EvP.pos he.2.2 ?_))
 have:=he.2
 have hl : (p.2.1.take e.1.toNat).length = e.1.toNat:=by rw [List.length_take];omega
 exact keep_Uneven_j0 s p.1 _ e.2 he.1 h2 (h3.take _) h4 h5 (by omega) (by omega)
theorem bundles_el (x y L z : List Int) (s : Int) (h : Src L s) (hz : Smp z) (hzx : z.length = x.length) (hx : 2 ≤ x.length∧x.length ≤ 32) (hy : 2 ≤ y.length∧y.length ≤ 32) : EvP (fun k=>shapesearchlaw16_bundles.el k x y L z s) (fun r=>Src L r.2∧Smp r.1∧r.1.length = y.length):=by
 unfold shapesearchlaw16_bundles.el
 have hl : ∀ s,Src L s → EvP (fun k=>shapesearchkeep_Src_List.f k L s (y.length : Int)) (fun r=>Src L r.2∧Smp r.1∧r.1.length = y.length):=fun s hs=>EvP.mono (keep_List L s (y.length : Int) hs (by omega) (by omega)) (fun r hr=>⟨hr.1,hr.2.1,by have:=hr.2.2;omega⟩)
 refine EvP.ite (fun he=>EvP.bind (keep_N L s 2 h (by omega) (by omega)) (fun c hc=>EvP.ite (fun _=>?_) (fun _=>hl _ hc.1))) (fun _=>hl _ h)
 exact EvP.mono (keep_Near L c.2 z hc.1 hz (by omega) (by omega)) (fun r hr=>⟨hr.1,hr.2.1,by omega⟩)
theorem bundles_go (x y L : List Int) (hx : Smp x) (hx2 : 2 ≤ x.length∧x.length ≤ 32) (hy2 : 2 ≤ y.length∧y.length ≤ 32) (i : Nat) : ∀ (p q : List (List Int)) (s : Int),Src L s → p.length = q.length → (∀ v ∈ p,v.length = x.length∧Smp v) → (∀ v ∈ q,v.length = y.length∧Smp v) →
  EvP (fun k=>shapesearchlaw16_bundles.go k x y L i p q s) (fun r=>Src L r.2.2∧r.1.length = p.length + i∧r.1.length = r.2.1.length∧(∀ v ∈ r.1,v.length = x.length∧Smp v)∧(∀ v ∈ r.2.1,v.length = y.length∧Smp v)):=by
 induction i with
 | zero=>intro p q s hs hl hp hq;exact EvP.ret ⟨hs,rfl,hl,hp,hq⟩
 | succ i ih =>
  intro p q s hs hl hp hq
  refine EvP.congr (fun k=>by rw [shapesearchlaw16_bundles.go]) (EvP.bind (keep_Near L s x hs hx (by omega) (by omega)) (fun z hz=>EvP.bind (bundles_el x y L z.1 z.2 hz.1 hz.2.1 hz.2.2 hx2 hy2) (fun v hv=>?_)))
  refine EvP.mono (ih _ _ _ hv.1 (by simp [hl]) (fun u hu=>?_) (fun u hu=>?_)) (fun r hr=>⟨hr.1,by rw [hr.2.1];simp;omega,hr.2.2⟩)
  ·
   rcases List.mem_append.1 hu with hu|hu
   ·
    exact hp u hu
   ·
    rw [List.mem_singleton.1 hu];exact ⟨hz.2.2,hz.2.1⟩
  ·
   rcases List.mem_append.1 hu with hu|hu
   ·
    exact hq u hu
   ·
    rw [List.mem_singleton.1 hu];exact ⟨hv.2.2,hv.2.1⟩
theorem bundles_is (s : List Int) (a : Int) (h : Src s a) : EvP (fun k=>shapesearchlaw16_bundles.f k s a) (fun r=>∃ n m,Fit r.1 r.2.1 n m r.2.2.1):=by
 unfold shapesearchlaw16_bundles.f
 refine EvP.bind (keep_Uneven s a h) (fun u hu=>?_)
 obtain ⟨h1,h2,h3,h4,h5,h6,h7,h8,h9,h10,h11⟩:=hu
 refine EvP.bind (keep_N s u.2.2.2 4 h1 (by omega) (by omega)) (fun c hc=>EvP.pos ⟨hc.2.1,by have:=hc.2.2;omega⟩ ?_)
 refine EvP.bind (bundles_go u.1 u.2.1 s h2 ⟨h4,h5⟩ ⟨h6,h7⟩ c.1.toNat [u.1] [u.2.1] c.2 hc.1 rfl (fun v hv=>by rw [List.mem_singleton.1 hv];exact ⟨rfl,h2⟩) (fun v hv=>by rw [List.mem_singleton.1 hv];exact ⟨rfl,h3⟩)) (fun r hr=>EvP.ret ⟨u.1.length,u.2.1.length,?_⟩)
 have hl:=hr.2.1
 simp at hl
 exact ⟨by dsimp only;omega,by have:=hc.2.2;have:=hc.2.1;dsimp only;omega,hr.2.2.1,hr.2.2.2.1,hr.2.2.2.2,⟨h4,h5⟩,⟨h6,h7⟩,⟨h8,h9⟩,⟨h10,h11⟩⟩
/-! ### sums over channels -/
def euSum (p q : List (List Int)) : Nat → Int
 | 0=>0
 | k + 1=>euSum p q k + sqd (X.chn p k) (X.chn q k)
theorem sqd_small {x y : List Int} (hx : Smp x) (hy : Smp y) (h32 : x.length ≤ 32) : 0 ≤ sqd x y∧sqd x y ≤ 128000000:=⟨sqd_nonneg x y,sqd_big hx hy h32⟩
theorem euSum_b {p q : List (List Int)} {n m : Nat} {b : Int} (h : Fit p q n m b) : ∀ k,k ≤ p.length → 0 ≤ euSum p q k∧euSum p q k ≤ 128000000 * (k : Int)
 | 0,_=>by simp [euSum]
 | k + 1,hk=>by
  have ih:=euSum_b h k (by omega)
  have hp:=h.chp (i:=k) (by omega)
  have hq:=h.chq (i:=k) (by omega)
  have:=sqd_small hp.2 hq.2 (by have:=h.n2;omega)
  simp only [euSum]
  omega
theorem Euclid_l1 (p q : List (List Int)) (z : Int) (x y : List Int) (L v : Int) (hz : 0 ≤ z) (hzq : z < (q.length : Int)) (hy0 : rd_L1 q z = y) (hx : Smp x) (hy : Smp y) (hl : x.length = y.length) (hn : x.length ≤ 32) (d : Nat) :
  ∀ (i : Nat) (s : Int),i + d = x.length → 0 ≤ s → s ≤ 1000000000 + 4000000 * i → Ev (fun k=>channels_Euclid.l0 k p q (s + sqd (x.drop i) (y.drop i)) L (wrap64 (z + 1))) (v,0) → Ev (fun k=>channels_Euclid.l1 k p q s z L z x (x.length : Int) (i : Int)) (v,0):=by
 subst hy0
 induction d with
 | zero =>
  intro i s hi h0 h1 hE
  refine Ev.step (fun k=>by rw [channels_Euclid.l1]) (Ev.neg (by omega) ?_)
  rw [List.drop_eq_nil_of_le (by omega)] at hE
  simp only [sqd,Int.add_zero] at hE
  exact hE
 | succ d ih =>
  intro i s hi h0 h1 hE
  have hlt : i < x.length:=by omega
  have hlt' : i < (rd_L1 q z).length:=by omega
  have bx:=hx x[i] (List.getElem_mem _)
  have by_:=hy (rd_L1 q z)[i] (List.getElem_mem _)
  refine Ev.step (fun k=>by rw [channels_Euclid.l1]) (Ev.pos (by omega) (Ev.pos (by omega) (Ev.pos (by omega) (Ev.pos hz (Ev.pos hzq (Ev.pos (by omega) ?_))))))
  have e : wrap64 ((i : Int) + 1) = ((i + 1 : Nat) : Int):=by rw [w64 (by omega) (by omega)];omega
  have b1:=sqnn (x[i] - (rd_L1 q z)[i])
  have b2:=abs_sq (a:=x[i] - (rd_L1 q z)[i]) (m:=2000) (by omega) (by omega)
  rw [rd_nat x i hlt,rd_nat (rd_L1 q z) i hlt',e]
  rw [List.drop_eq_getElem_cons hlt,List.drop_eq_getElem_cons hlt'] at hE
  simp only [sqd] at hE
  rw [← Int.add_assoc] at hE
  have e1 : wrap64 (x[i] - (rd_L1 q z)[i]) = x[i] - (rd_L1 q z)[i]:=w64 (by omega) (by omega)
  have e2 : wrap64 ((x[i] - (rd_L1 q z)[i]) * (x[i] - (rd_L1 q z)[i])) = (x[i] - (rd_L1 q z)[i]) * (x[i] - (rd_L1 q z)[i]):=w64 (by omega) (by omega)
  have e3 : wrap64 (s + (x[i] - (rd_L1 q z)[i]) * (x[i] - (rd_L1 q z)[i])) = s + (x[i] - (rd_L1 q z)[i]) * (x[i] - (rd_L1 q z)[i]):=w64 (by omega) (by omega)
  unfold channels_square.f
  simp only [Option.bind_some]
  rw [e1,e2,e3]
  exact ih (i + 1) _ (by omega) (by omega) (by omega) hE
theorem Euclid_l0 {p q : List (List Int)} {n : Nat} {b : Int} (h : Fit p q n n b) (d : Nat) : ∀ i : Nat,i + d = p.length → Ev (fun k=>channels_Euclid.l0 k p q (euSum p q i) (p.length : Int) (i : Int)) (euSum p q p.length,0):=by
 induction d with
 | zero =>
  intro i hi
  obtain rfl : i = p.length:=by omega
  exact Ev.step (fun k=>by rw [channels_Euclid.l0]) (Ev.neg (by omega) (Ev.now _))
 | succ d ih =>
  intro i hi
  have hp:=h.chp (i:=i) (by omega)
  have hq:=h.chq (i:=i) (by omega)
  have hb:=euSum_b h i (by omega)
  have h4:=h.p4
  have hpq:=h.pq
  have hn:=h.n2
  refine Ev.step (fun k=>by rw [channels_Euclid.l0]) (Ev.pos (by omega) (Ev.pos (by omega) (Ev.pos (by omega) ?_)))
  rw [rdL_chn p i]
  refine Euclid_l1 p q (i : Int) _ (X.chn q i) (p.length : Int) _ (by omega) (by omega) (rdL_chn q i) hp.2 hq.2 (by rw [hp.1,hq.1]) (by omega) (X.chn p i).length 0 (euSum p q i) (by omega) hb.1 (by omega) ?_
  rw [show wrap64 ((i : Int) + 1) = ((i + 1 : Nat) : Int) by rw [w64 (by omega) (by omega)];omega]
  simp only [List.drop_zero]
  exact ih (i + 1) (by omega)
theorem Euclid_is {p q : List (List Int)} {n : Nat} {b : Int} (h : Fit p q n n b) : Ev (fun k=>channels_Euclid.f k p q) (euSum p q p.length,0):=by
 unfold channels_Euclid.f
 have h0 : Fit p q n n 0:=⟨h.p1,h.p4,h.pq,h.pr,h.qr,h.n2,h.m2,⟨by omega,by omega⟩,⟨by omega,by omega⟩⟩
 refine Ev.bind (check_is h0) (Ev.pos rfl ?_)
 exact Euclid_l0 h p.length 0 (by omega)
theorem Fit.len0 {p q : List (List Int)} {n m : Nat} {b : Int} (h : Fit p q n m b) : (X.chn p 0).length = n∧(X.chn q 0).length = m:=⟨(h.chp (i:=0) (by have:=h.p1;omega)).1,(h.chq (i:=0) (by have:=h.p1;omega)).1⟩
theorem Fit.near {p q : List (List Int)} {n m : Nat} {b : Int} (h : Fit p q n m b) : MathWp.near b (n - 1) (m - 1):=by
 have:=h.nm
 have:=h.n2
 have:=h.m2
 unfold MathWp.near
 omega
theorem Fit.one {p q : List (List Int)} {n m : Nat} {b : Int} (h : Fit p q n m b) {i : Nat} (hi : i < p.length) : Fit [X.chn p i] [X.chn q i] n m b :=
 ⟨by simp,by simp,rfl,fun x hx=>by rw [List.mem_singleton.1 hx];exact h.chp hi,fun x hx=>by rw [List.mem_singleton.1 hx];exact h.chq hi,h.n2,h.m2,h.b0,h.nm⟩
/-! ### products, variances, gaps -/
theorem normal_product_l0 (x y : List Int) (hx : Smp x) (hy : Smp y) (hl : x.length = y.length) (hn : x.length ≤ 32) (d : Nat) :
  ∀ (i : Nat) (p s t : Int),i + d = x.length → -1000000 * i ≤ p → p ≤ 1000000 * i → -1000 * i ≤ s → s ≤ 1000 * i → -1000 * i ≤ t → t ≤ 1000 * i →
   Ev (fun k=>normal_product.l0 k x y p s t x (x.length : Int) (i : Int)) ((x.length : Int) * (p + dot (x.drop i) (y.drop i)) - (s + sm (x.drop i)) * (t + sm (y.drop i))):=by
 induction d with
 | zero =>
  intro i p s t hi p0 p1 s0 s1 t0 t1
  refine Ev.step (fun k=>by rw [normal_product.l0]) (Ev.neg (by omega) ?_)
  rw [List.drop_eq_nil_of_le (by omega),List.drop_eq_nil_of_le (by omega)]
  simp only [dot,sm,Int.add_zero]
  have b1:=mul_abs (u:=(x.length : Int)) (v:=p) (A:=32) (B:=32000000) (by omega) (by omega) (by omega) (by omega) (by omega) (by omega)
  have b2:=mul_abs (u:=s) (v:=t) (A:=32000) (B:=32000) (by omega) (by omega) (by omega) (by omega) (by omega) (by omega)
  rw [w64 (n:=(x.length : Int) * p) (by omega) (by omega),w64 (n:=s * t) (by omega) (by omega),w64 (n:=(x.length : Int) * p - s * t) (by omega) (by omega)]
  exact Ev.now _
 | succ d ih =>
  intro i p s t hi p0 p1 s0 s1 t0 t1
  have hlt : i < x.length:=by omega
  have hlt' : i < y.length:=by omega
  have bx:=hx x[i] (List.getElem_mem _)
  have by_:=hy y[i] (List.getElem_mem _)
  refine Ev.step (fun k=>by rw [normal_product.l0]) (Ev.pos (by omega) (Ev.pos (by omega) (Ev.pos (by omega) (Ev.pos (by omega) ?_))))
  have hi1 : i + 1 + d = x.length:=by omega
  have hc : ((i + 1 : Nat) : Int) = (i : Int) + 1:=by omega
  have hi32 : i ≤ 32:=by omega
  rw [w_succ (by omega),rd_nat x i hlt,rd_nat y i hlt',List.drop_eq_getElem_cons hlt,List.drop_eq_getElem_cons hlt']
  simp only [dot,sm]
  generalize x[i] = u at *
  generalize y[i] = v at *
  have b1:=mul_abs (u:=u) (v:=v) (A:=1000) (B:=1000) (by omega) (by omega) (by omega) (by omega) (by omega) (by omega)
  have:=ih (i + 1) (p + u * v) (s + u) (t + v) hi1 (by rw [hc];omega) (by rw [hc];omega) (by rw [hc];omega) (by rw [hc];omega) (by rw [hc];omega) (by rw [hc];omega)
  rw [w64 (n:=u * v) (by omega) (by omega),w64 (n:=p + u * v) (by omega) (by omega),w64 (n:=s + u) (by omega) (by omega),w64 (n:=t + v) (by omega) (by omega)]
  rw [Int.add_assoc,Int.add_assoc,Int.add_assoc] at this
  exact this
theorem normal_product_is {x y : List Int} (hx : Smp x) (hy : Smp y) (hl : x.length = y.length) (hn : x.length ≤ 32) : Ev (fun k=>normal_product.f k x y) (cov x y):=by
 have:=normal_product_l0 x y hx hy hl hn x.length 0 0 0 0 (by omega) (by omega) (by omega) (by omega) (by omega) (by omega) (by omega)
 simp only [List.drop_zero,Int.zero_add] at this
 exact this
/-! ### ratios -/
theorem ratio_divisor_l0 (b : Nat) : ∀ a : Nat,Ev (fun k=>ratio_divisor.l0 k (a : Int) (b : Int)) (Nat.gcd a b : Int):=by
 induction b using Nat.strongRecOn with
 | _ b ih =>
  intro a
  refine Ev.step (fun k=>by rw [ratio_divisor.l0]) ?_
  by_cases h : b = 0
  ·
   subst h
   rw [Nat.gcd_zero_right]
   exact Ev.pos rfl (Ev.now _)
  ·
   refine Ev.neg (by omega) ?_
   have e1 : Int.tmod (a : Int) (b : Int) = ((a % b : Nat) : Int):=by rw [Int.tmod_eq_emod_of_nonneg (by omega)];rfl
   have e2 : Nat.gcd a b = Nat.gcd b (a % b):=by rw [Nat.gcd_comm a b,Nat.gcd_rec b a,Nat.gcd_comm]
   rw [e1,e2]
   exact ih (a % b) (Nat.mod_lt _ (by omega)) b
theorem ratio_divisor_is (a b : Int) (ha : 0 ≤ a) (hb : 0 ≤ b) : Ev (fun k=>ratio_divisor.f k a b) (gcdz a b):=by
 obtain ⟨m,rfl⟩:=Int.eq_ofNat_of_zero_le ha
 obtain ⟨n,rfl⟩:=Int.eq_ofNat_of_zero_le hb
 have:=ratio_divisor_l0 n m
 unfold gcdz
 rw [Int.toNat_natCast,Int.toNat_natCast]
 exact this
theorem ratio_within_is (p q : Int) : ratio_within.f p q = some (decide (0 ≤ p∧p ≤ 2305843009213693952∧1 ≤ q∧q ≤ 1152921504606846976)):=by
 unfold ratio_within.f
 by_cases h1 : p ≥ 0
 ·
  rw [if_pos h1]
  by_cases h2 : p ≤ 2305843009213693952
  ·
   rw [if_pos h2]
   by_cases h3 : q ≥ 1
   ·
    rw [if_pos h3]
    congr 1
    rw [decide_eq_decide]
    omega
   ·
    rw [if_neg h3,decide_eq_false (by omega)]
  ·
   rw [if_neg h2,decide_eq_false (by omega)]
 ·
  rw [if_neg h1,decide_eq_false (by omega)]
theorem ratio_Make_is (n d : Int) (hn : -9223372036854775808 ≤ n) (hn' : n ≤ 9223372036854775807) (hd : -9223372036854775808 ≤ d) (hd' : d ≤ 9223372036854775807) : Ev (fun k=>ratio_Make.f k n d) (mkr n d):=by
 have j0 : ∀ b : Bool,(b = true ↔ n < 0 ∨ d < 1) → Ev (fun k=>ratio_Make.j0 k n d b) (mkr n d):=by
  intro b hb
  refine Ev.step (fun k=>by rw [ratio_Make.j0]) ?_
  unfold mkr
  cases b with
  | true =>
   rw [if_pos (hb.1 rfl)]
   exact Ev.pos rfl (Ev.now _)
  | false =>
   have hc : ¬ (n < 0 ∨ d < 1):=fun h=>by have:=hb.2 h;cases this
   rw [if_neg hc]
   have hg:=gcdz_pos (n:=n) (d:=d) (by omega)
   refine Ev.neg (by simp) (Ev.bind (ratio_divisor_is n d (by omega) (by omega)) (Ev.neg (by omega) ?_))
   have b1:=Int.ediv_le_self (gcdz n d) (show 0 ≤ n by omega)
   have b2:=Int.ediv_le_self (gcdz n d) (show 0 ≤ d by omega)
   have b3:=Int.ediv_nonneg (show 0 ≤ n by omega) (show 0 ≤ gcdz n d by omega)
   have b4:=Int.ediv_nonneg (show 0 ≤ d by omega) (show 0 ≤ gcdz n d by omega)
   have e1 : wrap64 (Int.tdiv n (gcdz n d)) = n / gcdz n d:=by rw [Int.tdiv_eq_ediv_of_nonneg (by omega),w64 (by omega) (by omega)]
   have e2 : wrap64 (Int.tdiv d (gcdz n d)) = d / gcdz n d:=by rw [Int.tdiv_eq_ediv_of_nonneg (by omega),w64 (by omega) (by omega)]
   have b5 : 1 ≤ d / gcdz n d:=by
    have hdv : gcdz n d ∣ d:=by
     unfold gcdz
     have:=Int.natCast_dvd_natCast.2 (Nat.gcd_dvd_right n.toNat d.toNat)
     rwa [Int.toNat_of_nonneg (show 0 ≤ d by omega)] at this
    have:=Int.ediv_mul_cancel hdv
    by_cases h0 : d / gcdz n d = 0
    ·
     rw [h0] at this
     omega
    ·
     omega
   rw [e1,e2,ratio_within_is]
   refine Ev.bind (Ev.now _) ?_
   by_cases hw : n / gcdz n d ≤ 2305843009213693952∧d / gcdz n d ≤ 1152921504606846976
   ·
    rw [if_pos hw]
    exact Ev.pos (decide_eq_true ⟨b3,hw.1,b5,hw.2⟩) (Ev.now _)
   ·
    rw [if_neg hw]
    exact Ev.neg (fun h=>hw ⟨(of_decide_eq_true h).2.1,(of_decide_eq_true h).2.2.2⟩) (Ev.now _)
 unfold ratio_Make.f
 by_cases h : n < 0
 ·
  exact Ev.pos h (j0 true ⟨fun _=>.inl h,fun _=>rfl⟩)
 ·
  refine Ev.neg h (j0 _ ⟨fun hc=>.inr (of_decide_eq_true hc),fun hc=>decide_eq_true (by omega)⟩)
/-! ### variances and gaps -/
theorem window_Variance_is {m s q : Int} (h1 : 1 ≤ m) (h2 : m ≤ 32) (s0 : -1000 * m ≤ s) (s1 : s ≤ 1000 * m) (q0 : 0 ≤ q) (q1 : q ≤ 1000000 * m) (hd : 0 ≤ m * q - s * s) : window_Variance.f m s q = some (m * q - s * s):=by
 have e1 : wrap64 ((-1000) * m) = -1000 * m:=w64 (by omega) (by omega)
 have e2 : wrap64 (1000 * m) = 1000 * m:=w64 (by omega) (by omega)
 have e3 : wrap64 (1000000 * m) = 1000000 * m:=w64 (by omega) (by omega)
 have b1:=mul_abs (u:=m) (v:=q) (A:=32) (B:=32000000) (by omega) (by omega) (by omega) (by omega) (by omega) (by omega)
 have b2:=mul_abs (u:=s) (v:=s) (A:=32000) (B:=32000) (by omega) (by omega) (by omega) (by omega) (by omega) (by omega)
 have e4 : wrap64 (m * q) = m * q:=w64 (by omega) (by omega)
 have e5 : wrap64 (s * s) = s * s:=w64 (by omega) (by omega)
 have e6 : wrap64 (m * q - s * s) = m * q - s * s:=w64 (by omega) (by omega)
 unfold window_Variance.f
 rw [e1,e2,e3,e4,e5,e6,if_neg (by omega),if_neg (by omega),if_neg (by omega),if_neg (by omega),if_neg (by omega),if_neg (by omega)]
 unfold mx
 split
 ·
  congr 1 <;> omega
 ·
  congr 1 <;> omega
theorem normal_variance_l0 (x : List Int) (hx : Smp x) (h1 : 1 ≤ x.length) (hn : x.length ≤ 32) (d : Nat) :
  ∀ (i : Nat) (s q : Int),i + d = x.length → -1000 * i ≤ s → s ≤ 1000 * i → 0 ≤ q → q ≤ 1000000 * i → 0 ≤ (x.length : Int) * (q + dot (x.drop i) (x.drop i)) - (s + sm (x.drop i)) * (s + sm (x.drop i)) →
   Ev (fun k=>normal_variance.l0 k x (x.length : Int) (i : Int) (x.length : Int) s q) ((x.length : Int) * (q + dot (x.drop i) (x.drop i)) - (s + sm (x.drop i)) * (s + sm (x.drop i))):=by
 induction d with
 | zero =>
  intro i s q hi s0 s1 q0 q1 hd
  refine Ev.step (fun k=>by rw [normal_variance.l0]) (Ev.neg (by omega) ?_)
  rw [show x.drop i = [] from List.drop_eq_nil_of_le (by omega)] at hd ⊢
  simp only [dot,sm,Int.add_zero] at hd ⊢
  rw [window_Variance_is (by omega) (by omega) (by omega) (by omega) q0 (by omega) hd]
  exact Ev.bind (Ev.now _) (Ev.now _)
 | succ d ih =>
  intro i s q hi s0 s1 q0 q1 hd
  have hlt : i < x.length:=by omega
  have bx:=hx x[i] (List.getElem_mem _)
  have hi1 : i + 1 + d = x.length:=by omega
  have hc : ((i + 1 : Nat) : Int) = (i : Int) + 1:=by omega
  refine Ev.step (fun k=>by rw [normal_variance.l0]) (Ev.pos (by omega) (Ev.pos (by omega) (Ev.pos (by omega) ?_)))
  have hi32 : i ≤ 32:=by omega
  rw [w_succ (by omega),rd_nat x i hlt]
  rw [List.drop_eq_getElem_cons hlt] at hd ⊢
  simp only [dot,sm] at hd ⊢
  generalize x[i] = u at *
  have b1:=mul_abs (u:=u) (v:=u) (A:=1000) (B:=1000) (by omega) (by omega) (by omega) (by omega) (by omega) (by omega)
  have b0:=sqnn u
  have:=ih (i + 1) (s + u) (q + u * u) hi1 (by rw [hc];omega) (by rw [hc];omega) (by omega) (by rw [hc];omega) (by rw [Int.add_assoc,Int.add_assoc];exact hd)
  rw [w64 (n:=u * u) (by omega) (by omega),w64 (n:=q + u * u) (by omega) (by omega),w64 (n:=s + u) (by omega) (by omega)]
  rw [Int.add_assoc,Int.add_assoc] at this
  exact this
theorem normal_variance_is {x : List Int} (hx : Smp x) (h1 : 1 ≤ x.length) (hn : x.length ≤ 32) : Ev (fun k=>normal_variance.f k x) (cov x x):=by
 have nn:=cov_self_nonneg x
 unfold cov at nn
 have:=normal_variance_l0 x hx h1 hn x.length 0 0 0 (by omega) (by omega) (by omega) (by omega) (by omega) (by simpa using nn)
 simp only [List.drop_zero,Int.zero_add] at this
 exact this
theorem normal_gap_is {x y : List Int} (hx : Smp x) (hy : Smp y) (h1 : 1 ≤ x.length) (hn : x.length ≤ 32) (hl : x.length = y.length) : Ev (fun k=>normal_gap.f k x y) (gapv x y):=by
 have bx:=cov_bound hx hn
 have by_:=cov_bound hy (by omega)
 have nx:=cov_self_nonneg x
 have ny:=cov_self_nonneg y
 have cc:=cov_cs hl
 have b1:=mul_le4 nx bx ny by_
 have b2:=Int.mul_nonneg nx ny
 have b3:=sqnn (cov x y)
 have j0 : ∀ b : Bool,(b = true ↔ cov x x = 0∧cov y y = 0) → Ev (fun k=>normal_gap.j0 k x y (cov x x) (cov y y) b) (gapv x y):=by
  intro b hb
  refine Ev.step (fun k=>by rw [normal_gap.j0]) ?_
  unfold gapv gapn
  cases b with
  | true =>
   rw [if_pos (hb.1 rfl)]
   exact Ev.pos rfl (Ev.bind (ratio_Make_is 0 1 (by omega) (by omega) (by omega) (by omega)) (Ev.now _))
  | false =>
   have hc : ¬ (cov x x = 0∧cov y y = 0):=fun h=>by have:=hb.2 h;cases this
   rw [if_neg hc]
   refine Ev.neg (by simp) ?_
   by_cases h0 : cov x x = 0
   ·
    rw [if_pos (.inl h0)]
    exact Ev.pos h0 (Ev.bind (ratio_Make_is 1 1 (by omega) (by omega) (by omega) (by omega)) (Ev.now _))
   refine Ev.neg h0 ?_
   by_cases h2 : cov y y = 0
   ·
    rw [if_pos (.inr h2)]
    exact Ev.pos h2 (Ev.bind (ratio_Make_is 1 1 (by omega) (by omega) (by omega) (by omega)) (Ev.now _))
   refine Ev.neg h2 (Ev.bind (normal_product_is hx hy hl hn) ?_)
   rw [if_neg (by omega),w64 (n:=cov x x * cov y y) (by omega) (by omega),w64 (n:=cov x y * cov x y) (by omega) (by omega),w64 (n:=cov x x * cov y y + cov x y * cov x y) (by omega) (by omega),w64 (n:=cov x x * cov y y - cov x y * cov x y) (by omega) (by omega)]
   by_cases h3 : cov x y < 0
   ·
    rw [if_pos h3]
    exact Ev.pos h3 (Ev.bind (ratio_Make_is _ _ (by omega) (by omega) (by omega) (by omega)) (Ev.now _))
   ·
    rw [if_neg h3]
    exact Ev.neg h3 (Ev.bind (ratio_Make_is _ _ (by omega) (by omega) (by omega) (by omega)) (Ev.now _))
 unfold normal_gap.f
 refine Ev.bind (normal_variance_is hx h1 hn) (Ev.bind (normal_variance_is hy (by omega) (by omega)) ?_)
 by_cases h : cov x x = 0
 ·
  refine Ev.pos h (j0 _ ?_)
  simp [h]
 ·
  refine Ev.neg h (j0 _ ?_)
  simp [h]
theorem normal_Gap_ok {x y : List Int} (hx : Smp x) (hy : Smp y) (h2 : 2 ≤ x.length) (h32 : x.length ≤ 32) (hl : x.length = y.length) : Ev (fun k=>normal_Gap.f k x y) (gapv x y):=by
 unfold normal_Gap.f
 exact Ev.bind (euclid_Distance_ok hx hy h2 h32 hl) (Ev.pos rfl (Ev.bind (normal_gap_is hx hy (by omega) h32 hl) (Ev.now _)))
/-! ### windows read backwards -/
/-! ### the gap's range -/
theorem gapn_facts {v w c : Int} (v0 : 0 ≤ v) (v1 : v ≤ 1024000000) (w0 : 0 ≤ w) (w1 : w ≤ 1024000000) (hc : c * c ≤ v * w) :
  ∃ p q : Int,gapn v w c = (p,q,0)∧RatV p q∧p ≤ 2 * q∧(p = q ↔ (c = 0∧(v≠0 ∨ w≠0)))∧(p < q ↔ (0 < c ∨ (v = 0∧w = 0))):=by
 have cc:=sqnn c
 have hvw : v * w ≤ 1024000000 * 1024000000:=Int.mul_le_mul v1 w1 w0 (by omega)
 by_cases hv : v = 0
 ·
  have hc0 : c = 0:=by
   rw [hv,Int.zero_mul] at hc
   exact (Int.mul_eq_zero.1 (show c * c = 0 by omega)).elim id id
  by_cases hw : w = 0
  ·
   refine ⟨0,1,?_,⟨by decide,by decide,by decide,by decide,by decide⟩,by decide,?_,?_⟩
   ·
    unfold gapn
    rw [if_pos ⟨hv,hw⟩]
    rfl
   ·
    exact ⟨fun h=>by omega,fun h=>by omega⟩
   ·
    exact ⟨fun _=>.inr ⟨hv,hw⟩,fun _=>by decide⟩
  ·
   refine ⟨1,1,?_,⟨by decide,by decide,by decide,by decide,by decide⟩,by decide,?_,?_⟩
   ·
    unfold gapn
    rw [if_neg (fun h=>hw h.2),if_pos (.inl hv)]
    rfl
   ·
    exact ⟨fun _=>⟨hc0,.inr hw⟩,fun _=>rfl⟩
   ·
    exact ⟨fun h=>by omega,fun h=>by omega⟩
 ·
  by_cases hw : w = 0
  ·
   have hc0 : c = 0:=by
    rw [hw,Int.mul_zero] at hc
    exact (Int.mul_eq_zero.1 (show c * c = 0 by omega)).elim id id
   refine ⟨1,1,?_,⟨by decide,by decide,by decide,by decide,by decide⟩,by decide,?_,?_⟩
   ·
    unfold gapn
    rw [if_neg (fun h=>hv h.1),if_pos (.inr hw)]
    rfl
   ·
    exact ⟨fun _=>⟨hc0,.inl hv⟩,fun _=>rfl⟩
   ·
    exact ⟨fun h=>by omega,fun h=>by omega⟩
  ·
   have hpos : 0 < v * w:=Int.mul_pos (by omega) (by omega)
   have e0 : gapn v w c = if c < 0 then mkr (v * w + c * c) (v * w) else mkr (v * w - c * c) (v * w):=by
    unfold gapn
    rw [if_neg (fun h=>hv h.1),if_neg (fun h=>h.elim hv hw)]
   have cpos : c≠0 → 0 < c * c:=fun h=>by
    have : c * c≠0:=fun g=>h ((Int.mul_eq_zero.1 g).elim id id)
    omega
   rw [e0]
   by_cases hcn : c < 0
   ·
    rw [if_pos hcn]
    obtain ⟨p,q,g,e1,e2,g1,e3,e4⟩:=mkr_ok (n:=v * w + c * c) (d:=v * w) (by omega) (by omega) (by omega) (by omega)
    have hcp:=cpos (by omega)
    have hlt : q < p:=Int.lt_of_mul_lt_mul_right (a:=g) (by omega) (by omega)
    have hle : p ≤ 2 * q:=Int.le_of_mul_le_mul_right (a:=g) (by rw [Int.mul_assoc];omega) (by omega)
    exact ⟨p,q,e1,e2,hle,⟨fun h=>by omega,fun h=>by omega⟩,⟨fun h=>by omega,fun h=>by omega⟩⟩
   ·
    rw [if_neg hcn]
    obtain ⟨p,q,g,e1,e2,g1,e3,e4⟩:=mkr_ok (n:=v * w - c * c) (d:=v * w) (by omega) (by omega) (by omega) (by omega)
    by_cases hz : c = 0
    ·
     have hcz : c * c = 0:=by rw [hz];rfl
     have hpq : p = q:=Int.eq_of_mul_eq_mul_right (show g≠0 by omega) (by omega)
     exact ⟨p,q,e1,e2,by have:=e2.1;omega,⟨fun _=>⟨hz,.inl hv⟩,fun _=>hpq⟩,⟨fun h=>by omega,fun h=>by omega⟩⟩
    ·
     have hcp:=cpos hz
     have hlt : p < q:=Int.lt_of_mul_lt_mul_right (a:=g) (by omega) (by omega)
     exact ⟨p,q,e1,e2,by have:=e2.1;omega,⟨fun h=>by omega,fun h=>by omega⟩,⟨fun _=>.inl (by omega),fun _=>hlt⟩⟩
/-! ### products of 128 bits, and ratios compared by them -/
theorem wrap_u64 (n : Int) : IntKind.u64.wrap n = n % 18446744073709551616:=by simp [IntKind.wrap,IntKind.bits,IntKind.signed]
theorem wraps_u64 (n : Int) (h0 : 0 ≤ n) (h1 : n < 2 ^ 64) : IntKind.u64.wrap n = n:=by rw [wrap_u64];omega
theorem and32 {x : Int} (h0 : 0 ≤ x) (h1 : x < 18446744073709551616) : Go.bits .and .u64 x 4294967295 = x % 4294967296:=bits_mask .u64 64 (by decide) wraps_u64 32 (by decide) x h0 h1
theorem mul_bd {a b A B : Int} (h0 : 0 ≤ a) (h1 : a ≤ A) (h2 : 0 ≤ b) (h3 : b ≤ B) : 0 ≤ a * b∧a * b ≤ A * B:=⟨Int.mul_nonneg h0 h2,Int.mul_le_mul h1 h3 h2 (by omega)⟩
theorem Mul64_is {a b : Int} (ha : 0 ≤ a) (ha' : a ≤ 4611686018427387903) (hb : 0 ≤ b) (hb' : b ≤ 4611686018427387903) : bits_Mul64.f a b = some (a * b / 18446744073709551616,a * b % 18446744073709551616):=by
 unfold bits_Mul64.f
 rw [and32 ha (by omega),and32 hb (by omega)]
 obtain ⟨a1,e1⟩ : ∃ a1,a1 = a / 4294967296:=⟨_,rfl⟩
 obtain ⟨a0,e0⟩ : ∃ a0,a0 = a % 4294967296:=⟨_,rfl⟩
 obtain ⟨b1,f1⟩ : ∃ b1,b1 = b / 4294967296:=⟨_,rfl⟩
 obtain ⟨b0,f0⟩ : ∃ b0,b0 = b % 4294967296:=⟨_,rfl⟩
 rw [← e1,← e0,← f1,← f0]
 have ea : a = a1 * 4294967296 + a0:=by omega
 have eb : b = b1 * 4294967296 + b0:=by omega
 have hab : a * b = (a1 * b1) * 18446744073709551616 + ((a1 * b0) + (a0 * b1)) * 4294967296 + a0 * b0:=by
  rw [ea,eb,Int.add_mul,Int.mul_add,Int.mul_add]
  have g1 : a1 * 4294967296 * (b1 * 4294967296) = (a1 * b1) * 18446744073709551616:=by rw [Int.mul_assoc a1,Int.mul_left_comm 4294967296 b1,← Int.mul_assoc a1 b1];rfl
  have g2 : a1 * 4294967296 * b0 = (a1 * b0) * 4294967296:=by rw [Int.mul_assoc,Int.mul_comm 4294967296 b0,← Int.mul_assoc]
  have g3 : a0 * (b1 * 4294967296) = (a0 * b1) * 4294967296:=by rw [Int.mul_assoc]
  rw [g1,g2,g3,Int.add_mul]
  omega
 have p11:=mul_bd (a:=a1) (b:=b1) (A:=1073741823) (B:=1073741823) (by omega) (by omega) (by omega) (by omega)
 have p10:=mul_bd (a:=a1) (b:=b0) (A:=1073741823) (B:=4294967295) (by omega) (by omega) (by omega) (by omega)
 have p01:=mul_bd (a:=a0) (b:=b1) (A:=4294967295) (B:=1073741823) (by omega) (by omega) (by omega) (by omega)
 have p00:=mul_bd (a:=a0) (b:=b0) (A:=4294967295) (B:=4294967295) (by omega) (by omega) (by omega) (by omega)
 rw [wrap_u64 (a * b),hab]
 clear hab ea eb e1 e0 f1 f0 ha ha' hb hb'
 generalize a1 * b1 = x11 at *
 generalize a1 * b0 = x10 at *
 generalize a0 * b1 = x01 at *
 generalize a0 * b0 = x00 at *
 rw [wraps_u64 x11 (by omega) (by omega),wraps_u64 x10 (by omega) (by omega),wraps_u64 x01 (by omega) (by omega),wraps_u64 x00 (by omega) (by omega)]
 rw [wraps_u64 (x10 + x00 / 4294967296) (by omega) (by omega),and32 (by omega) (by omega)]
 rw [wraps_u64 (x11 + (x10 + x00 / 4294967296) / 4294967296) (by omega) (by omega),wraps_u64 ((x10 + x00 / 4294967296) % 4294967296 + x01) (by omega) (by omega)]
 rw [wraps_u64 _ (by omega) (by omega)]
 congr 2
 omega
theorem ratio_Valid_ok {p q : Int} (h : RatV p q) : Ev (fun k=>ratio_Valid.f k p q) true:=by
 obtain ⟨h1,h2,h3,h4,h5⟩:=h
 unfold ratio_Valid.f
 rw [ratio_within_is,decide_eq_true ⟨h1,h2,h3,h4⟩]
 simp only [Option.bind_some]
 refine Ev.pos trivial (Ev.bind (ratio_divisor_is p q h1 (by omega)) ?_)
 rw [h5]
 exact Ev.now _
theorem lex_is {x y : Int} (hx : 0 ≤ x) (hy : 0 ≤ y) : (x < y ↔ (x / 18446744073709551616 < y / 18446744073709551616 ∨ (x / 18446744073709551616 = y / 18446744073709551616∧x % 18446744073709551616 < y % 18446744073709551616)))∧(x = y ↔ (x / 18446744073709551616 = y / 18446744073709551616∧x % 18446744073709551616 = y % 18446744073709551616)):=by omega
theorem ratio_Cmp_is {a b c d : Int} (h : RatV a b) (h' : RatV c d) : Ev (fun k=>ratio_Cmp.f k a b c d) (cmpr a b c d):=by
 have v1:=ratio_Valid_ok h
 have v2:=ratio_Valid_ok h'
 obtain ⟨h1,h2,h3,h4,h5⟩:=h
 obtain ⟨k1,k2,k3,k4,k5⟩:=h'
 have n1 : 0 ≤ a * d:=Int.mul_nonneg h1 (by omega)
 have n2 : 0 ≤ c * b:=Int.mul_nonneg k1 (by omega)
 obtain ⟨l1,l2⟩:=lex_is n1 n2
 unfold ratio_Cmp.f
 refine Ev.bind v1 (Ev.pos rfl (Ev.bind v2 ?_))
 refine Ev.step (fun k=>by rw [ratio_Cmp.j0]) (Ev.neg (by simp) ?_)
 rw [wraps_u64 a (by omega) (by omega),wraps_u64 b (by omega) (by omega),wraps_u64 c (by omega) (by omega),wraps_u64 d (by omega) (by omega),Mul64_is h1 (by omega) (by omega) (by omega),Mul64_is k1 (by omega) (by omega) (by omega)]
 simp only [Option.bind_some]
 unfold cmpr
 by_cases g1 : a * d / 18446744073709551616 < c * b / 18446744073709551616
 ·
  rw [if_pos (show a * d < c * b from l1.2 (.inl g1))]
  refine Ev.pos g1 (Ev.step (fun k=>by rw [ratio_Cmp.j1]) (Ev.pos rfl (Ev.now _)))
 ·
  refine Ev.neg g1 ?_
  by_cases g2 : a * d / 18446744073709551616 = c * b / 18446744073709551616
  ·
   refine Ev.pos g2 (Ev.step (fun k=>by rw [ratio_Cmp.j1]) ?_)
   by_cases g3 : a * d % 18446744073709551616 < c * b % 18446744073709551616
   ·
    rw [if_pos (show a * d < c * b from l1.2 (.inr ⟨g2,g3⟩))]
    exact Ev.pos (decide_eq_true g3) (Ev.now _)
   ·
    rw [if_neg (show ¬ (a * d < c * b) from fun q=>by rcases l1.1 q with q|q;exact g1 q;exact g3 q.2)]
    refine Ev.neg (by simp [g3]) (Ev.pos g2 ?_)
    by_cases g4 : a * d % 18446744073709551616 = c * b % 18446744073709551616
    ·
     rw [if_pos (show a * d = c * b from l2.2 ⟨g2,g4⟩)]
     exact Ev.pos g4 (Ev.now _)
    ·
     rw [if_neg (show ¬ (a * d = c * b) from fun q=>g4 (l2.1 q).2)]
     exact Ev.neg g4 (Ev.now _)
  ·
   rw [if_neg (show ¬ (a * d < c * b) from fun q=>by rcases l1.1 q with q|q;exact g1 q;exact g2 q.1),if_neg (show ¬ (a * d = c * b) from fun q=>g2 (l2.1 q).1)]
   exact Ev.neg g2 (Ev.step (fun k=>by rw [ratio_Cmp.j1]) (Ev.neg (by simp) (Ev.neg g2 (Ev.now _))))
theorem ratio_Less_is {a b c d : Int} (h : RatV a b) (h' : RatV c d) : Ev (fun k=>ratio_Less.f k a b c d) (decide (a * d < c * b)):=by
 unfold ratio_Less.f
 refine Ev.bind (ratio_Cmp_is h h') ?_
 have : (decide (cmpr a b c d < 0)) = decide (a * d < c * b):=by
  rw [decide_eq_decide]
  exact cmpr_neg
 rw [this]
 exact Ev.now _
/-! ### the greatest gap -/
def gp (p q : List (List Int)) (k : Nat) : Int × Int:=((gapv (X.chn p k) (X.chn q k)).1,(gapv (X.chn p k) (X.chn q k)).2.1)
def gst (b g : Int × Int) : Int × Int:=if b.1 * g.2 < g.1 * b.2 then g else b
def grL (p q : List (List Int)) : Nat → Int × Int
 | 0=>(0,1)
 | k + 1=>gst (grL p q k) (gp p q k)
def RV (g : Int × Int) : Prop:=RatV g.1 g.2
def le2 (a b : Int × Int) : Prop:=a.1 * b.2 ≤ b.1 * a.2
theorem gap_ok {x y : List Int} (hx : Smp x) (hy : Smp y) (h32 : x.length ≤ 32) (hl : x.length = y.length) : ∃ u v : Int,gapv x y = (u,v,0)∧RatV u v:=by
 obtain ⟨u,v,e,r,-⟩:=gapn_facts (cov_self_nonneg x) (cov_bound hx h32) (cov_self_nonneg y) (cov_bound hy (by omega)) (cov_cs hl)
 exact ⟨u,v,e,r⟩
theorem le2_refl (a : Int × Int) : le2 a a:=Int.le_refl _
theorem le2_trans {a b c : Int × Int} (ha : 0 ≤ a.2) (hb : 0 < b.2) (hc : 0 ≤ c.2) (h1 : le2 a b) (h2 : le2 b c) : le2 a c:=by
 unfold le2 at *
 have e1 : a.1 * b.2 * c.2 ≤ b.1 * a.2 * c.2:=Int.mul_le_mul_of_nonneg_right h1 hc
 have e2 : b.1 * c.2 * a.2 ≤ c.1 * b.2 * a.2:=Int.mul_le_mul_of_nonneg_right h2 ha
 have e3 : (a.1 * c.2) * b.2 ≤ (c.1 * a.2) * b.2:=by
  have f1 : a.1 * c.2 * b.2 = a.1 * b.2 * c.2:=Int.mul_right_comm _ _ _
  have f2 : b.1 * a.2 * c.2 = b.1 * c.2 * a.2:=Int.mul_right_comm _ _ _
  have f3 : c.1 * a.2 * b.2 = c.1 * b.2 * a.2:=Int.mul_right_comm _ _ _
  omega
 exact Int.le_of_mul_le_mul_right e3 hb
theorem RV_eq {a b : Int × Int} (ha : RV a) (hb : RV b) (h : a.1 * b.2 = b.1 * a.2) : a = b:=by
 obtain ⟨a1,a2⟩:=a
 obtain ⟨b1,b2⟩:=b
 obtain ⟨h1,-,h3,-,h5⟩:=ha
 obtain ⟨k1,-,k3,-,k5⟩:=hb
 dsimp only at *
 unfold gcdz at h5 k5
 obtain ⟨x1,rfl⟩:=Int.eq_ofNat_of_zero_le h1
 obtain ⟨x2,rfl⟩:=Int.eq_ofNat_of_zero_le (show 0 ≤ a2 by omega)
 obtain ⟨y1,rfl⟩:=Int.eq_ofNat_of_zero_le k1
 obtain ⟨y2,rfl⟩:=Int.eq_ofNat_of_zero_le (show 0 ≤ b2 by omega)
 simp only [Int.toNat_natCast] at h5 k5
 have g1 : Nat.gcd x1 x2 = 1:=by omega
 have g2 : Nat.gcd y1 y2 = 1:=by omega
 have e : x1 * y2 = y1 * x2:=by
  have : ((x1 * y2 : Nat) : Int) = ((y1 * x2 : Nat) : Int):=by rw [Int.natCast_mul,Int.natCast_mul];exact h
  omega
 have d1 : x2 ∣ y2:=Nat.Coprime.dvd_of_dvd_mul_left (Nat.Coprime.symm g1) (e ▸ Nat.dvd_mul_left _ _)
 have d2 : y2 ∣ x2:=Nat.Coprime.dvd_of_dvd_mul_left (Nat.Coprime.symm g2) (e ▸ Nat.dvd_mul_left _ _)
 have e2 : x2 = y2:=Nat.dvd_antisymm d1 d2
 subst e2
 have : x1 = y1:=Nat.eq_of_mul_eq_mul_right (by omega) e
 rw [this]
theorem gst_facts {b g : Int × Int} (hb : RV b) (hg : RV g) : RV (gst b g)∧le2 b (gst b g)∧le2 g (gst b g)∧(gst b g = g ∨ gst b g = b):=by
 unfold gst
 by_cases h : b.1 * g.2 < g.1 * b.2
 ·
  rw [if_pos h]
  exact ⟨hg,Int.le_of_lt h,le2_refl _,.inl rfl⟩
 ·
  rw [if_neg h]
  exact ⟨hb,le2_refl _,by unfold le2;omega,.inr rfl⟩
theorem gp_ok {p q : List (List Int)} {n : Nat} {b : Int} (h : Fit p q n n b) {i : Nat} (hi : i < p.length) : RV (gp p q i)∧gapv (X.chn p i) (X.chn q i) = ((gp p q i).1,(gp p q i).2,0):=by
 have hp:=h.chp hi
 have hq:=h.chq hi
 obtain ⟨u,v,e,r⟩:=gap_ok hp.2 hq.2 (by have:=h.n2;omega) (by rw [hp.1,hq.1])
 unfold RV gp
 rw [e]
 exact ⟨r,rfl⟩
theorem rv0 : RV (0,1):=⟨by decide,by decide,by decide,by decide,by decide⟩
theorem grL_facts {p q : List (List Int)} {n : Nat} {b : Int} (h : Fit p q n n b) : ∀ k,k ≤ p.length → RV (grL p q k)∧(∀ j,j < k → le2 (gp p q j) (grL p q k))∧(grL p q k = (0,1) ∨ ∃ j,j < k∧grL p q k = gp p q j)
 | 0,_=>⟨rv0,fun j hj=>absurd hj (Nat.not_lt_zero _),.inl rfl⟩
 | k + 1,hk=>by
  obtain ⟨h1,h2,h3⟩:=grL_facts h k (by omega)
  have g1:=(gp_ok h (i:=k) (by omega)).1
  obtain ⟨r1,r2,r3,r4⟩:=gst_facts h1 g1
  show RV (gst (grL p q k) (gp p q k))∧(∀ j,j < k + 1 → le2 (gp p q j) (gst (grL p q k) (gp p q k)))∧(gst (grL p q k) (gp p q k) = (0,1) ∨ ∃ j,j < k + 1∧gst (grL p q k) (gp p q k) = gp p q j)
  refine ⟨r1,fun j hj=>?_,?_⟩
  ·
   by_cases e : j = k
   ·
    rw [e];exact r3
   ·
    have gj:=(gp_ok h (i:=j) (by omega)).1
    exact le2_trans (by have:=gj.2.2.1;omega) (by have:=h1.2.2.1;omega) (by have:=r1.2.2.1;omega) (h2 j (by omega)) r2
  ·
   rcases r4 with e|e
   ·
    exact .inr ⟨k,by omega,e⟩
   ·
    rw [e]
    rcases h3 with h3|⟨j,hj,h3⟩
    ·
     exact .inl h3
    ·
     exact .inr ⟨j,by omega,h3⟩
theorem Greatest_l0 {p q : List (List Int)} {n : Nat} {b : Int} (h : Fit p q n n b) (d : Nat) : ∀ i : Nat,i + d = p.length → Ev (fun k=>channels_Greatest.l0 k p q (p.length : Int) (i : Int) (grL p q i).1 (grL p q i).2) ((grL p q p.length).1,(grL p q p.length).2,0):=by
 induction d with
 | zero =>
  intro i hi
  obtain rfl : i = p.length:=by omega
  exact Ev.step (fun k=>by rw [channels_Greatest.l0]) (Ev.neg (by omega) (Ev.now _))
 | succ d ih =>
  intro i hi
  have hp:=h.chp (i:=i) (by omega)
  have hq:=h.chq (i:=i) (by omega)
  have h4:=h.p4
  have hpq:=h.pq
  have hn:=h.n2
  obtain ⟨g1,g2⟩:=gp_ok h (i:=i) (by omega)
  have gr:=(grL_facts h i (by omega)).1
  have hI:=ih (i + 1) (by omega)
  refine Ev.step (fun k=>by rw [channels_Greatest.l0]) (Ev.pos (by omega) (Ev.pos (by omega) (Ev.pos (by omega) (Ev.pos (by omega) ?_))))
  rw [rdL_chn p i,rdL_chn q i,show wrap64 ((i : Int) + 1) = ((i + 1 : Nat) : Int) by rw [w64 (by omega) (by omega)];omega]
  have hg:=normal_Gap_ok hp.2 hq.2 (by omega) (by omega) (by rw [hp.1,hq.1])
  rw [g2] at hg
  refine Ev.bind hg (Ev.pos rfl (Ev.bind (ratio_Less_is gr g1) ?_))
  by_cases hlt : (grL p q i).1 * (gp p q i).2 < (gp p q i).1 * (grL p q i).2
  ·
   have e : grL p q (i + 1) = gp p q i:=by show gst _ _ = _;unfold gst;rw [if_pos hlt]
   rw [e] at hI
   exact Ev.pos (decide_eq_true hlt) hI
  ·
   have e : grL p q (i + 1) = grL p q i:=by show gst _ _ = _;unfold gst;rw [if_neg hlt]
   rw [e] at hI
   exact Ev.neg (by simp [hlt]) hI
theorem Greatest_is {p q : List (List Int)} {n : Nat} {b : Int} (h : Fit p q n n b) : Ev (fun k=>channels_Greatest.f k p q) ((grL p q p.length).1,(grL p q p.length).2,0):=by
 unfold channels_Greatest.f
 have h0 : Fit p q n n 0:=⟨h.p1,h.p4,h.pq,h.pr,h.qr,h.n2,h.m2,⟨by omega,by omega⟩,⟨by omega,by omega⟩⟩
 refine Ev.bind (check_is h0) (Ev.pos rfl ?_)
 exact Greatest_l0 h p.length 0 (by omega)
/-! ### channels in another order -/
theorem zip_at {p q : List (List Int)} (h : p.length = q.length) {k : Nat} (hk : k < p.length) (hz : k < (p.zip q).length) : (p.zip q)[k] = (X.chn p k,X.chn q k):=by
 rw [List.getElem_zip]
 unfold X.chn
 rw [List.getD_eq_getElem?_getD,List.getD_eq_getElem?_getD,List.getElem?_eq_getElem hk,List.getElem?_eq_getElem (by omega)]
 rfl
theorem zip_len {p q : List (List Int)} (h : p.length = q.length) : (p.zip q).length = p.length:=by rw [List.length_zip];omega
def zAp (n m : Nat) (b : Int) (z : List Int × List Int) : Int:=MathWp.tab b (fun i j=>(z.1.getD i 0 - z.2.getD j 0) * (z.1.getD i 0 - z.2.getD j 0)) (n - 1) (m - 1)
def zCs (i j : Nat) (z : List Int × List Int) : Int:=(z.1.getD i 0 - z.2.getD j 0) * (z.1.getD i 0 - z.2.getD j 0)
def zEu (z : List Int × List Int) : Int:=sqd z.1 z.2
theorem sum_snoc (G : List Int × List Int → Int) (Z : List (List Int × List Int)) (k : Nat) (hk : k < Z.length) : ((Z.take (k + 1)).map G).sum = ((Z.take k).map G).sum + G Z[k]:=by
 rw [List.take_succ_eq_append_getElem hk,List.map_append,List.sum_append]
 simp
theorem apSum_zip {p q : List (List Int)} {n m : Nat} {b : Int} (h : Fit p q n m b) : ∀ k,k ≤ p.length → X.apSum p q b k = (((p.zip q).take k).map (zAp n m b)).sum
 | 0,_=>by simp [X.apSum]
 | k + 1,hk=>by
  have hz : k < (p.zip q).length:=by rw [zip_len h.pq];omega
  rw [sum_snoc _ _ k hz,← apSum_zip h k (by omega),zip_at h.pq (by omega) hz]
  simp only [X.apSum]
  rw [h.len0.1,h.len0.2]
  rfl
theorem cstAll_zip {p q : List (List Int)} (hpq : p.length = q.length) (i j : Nat) : ∀ k,k ≤ p.length → X.cstAll p q k i j = (((p.zip q).take k).map (zCs i j)).sum
 | 0,_=>by simp [X.cstAll]
 | k + 1,hk=>by
  have hz : k < (p.zip q).length:=by rw [zip_len hpq];omega
  rw [sum_snoc _ _ k hz,← cstAll_zip hpq i j k (by omega),zip_at hpq (by omega) hz]
  rfl
theorem euSum_zip {p q : List (List Int)} (hpq : p.length = q.length) : ∀ k,k ≤ p.length → euSum p q k = (((p.zip q).take k).map zEu).sum
 | 0,_=>by simp [euSum]
 | k + 1,hk=>by
  have hz : k < (p.zip q).length:=by rw [zip_len hpq];omega
  rw [sum_snoc _ _ k hz,← euSum_zip hpq k (by omega),zip_at hpq (by omega) hz]
  rfl
def rot {α : Type} (c : Nat) (l : List α) : List α:=l.drop c ++ l.take c
theorem rot_length {α : Type} (c : Nat) (l : List α) (hc : c ≤ l.length) : (rot c l).length = l.length:=by unfold rot;rw [List.length_append,List.length_drop,List.length_take];omega
theorem rot_mem {α : Type} (c : Nat) (l : List α) (x : α) : x ∈ rot c l ↔ x ∈ l:=by
 unfold rot
 rw [List.mem_append]
 constructor
 ·
  rintro (h|h)
  ·
   exact List.mem_of_mem_drop h
  ·
   exact List.mem_of_mem_take h
 ·
  intro h
  rw [← List.take_append_drop c l] at h
  rcases List.mem_append.1 h with h|h
  ·
   exact .inr h
  ·
   exact .inl h
theorem rot_sum (G : List Int × List Int → Int) (c : Nat) (Z : List (List Int × List Int)) : ((rot c Z).map G).sum = (Z.map G).sum:=by
 unfold rot
 conv=>rhs;rw [← List.take_append_drop c Z]
 rw [List.map_append,List.map_append,List.sum_append,List.sum_append,Int.add_comm]
theorem rot_zip (c : Nat) (p q : List (List Int)) (h : p.length = q.length) : (rot c p).zip (rot c q) = rot c (p.zip q):=by
 unfold rot
 rw [List.zip_append (by rw [List.length_drop,List.length_drop,h])]
 simp only [List.zip,List.drop_zipWith,List.take_zipWith]
theorem Fit.rot {p q : List (List Int)} {n m : Nat} {b : Int} (h : Fit p q n m b) {c : Nat} (hc : c ≤ p.length) : Fit (rot c p) (rot c q) n m b :=
 ⟨by rw [rot_length c p hc];exact h.p1,by rw [rot_length c p hc];exact h.p4,by rw [rot_length c p hc,rot_length c q (by rw [← h.pq];exact hc)];exact h.pq,fun x hx=>h.pr x ((rot_mem c p x).1 hx),fun x hx=>h.qr x ((rot_mem c q x).1 hx),h.n2,h.m2,h.b0,h.nm⟩
theorem apart_rot {p q : List (List Int)} {n m : Nat} {b : Int} (h : Fit p q n m b) {c : Nat} (hc : c ≤ p.length) : X.apart (rot c p) (rot c q) b = X.apart p q b:=by
 have h':=h.rot hc
 unfold X.apart
 rw [apSum_zip h' _ (Nat.le_refl _),apSum_zip h _ (Nat.le_refl _),List.take_of_length_le (by rw [zip_len h'.pq];exact Nat.le_refl _),List.take_of_length_le (by rw [zip_len h.pq];exact Nat.le_refl _),rot_zip c p q h.pq,rot_sum]
theorem together_rot {p q : List (List Int)} {n m : Nat} {b : Int} (h : Fit p q n m b) {c : Nat} (hc : c ≤ p.length) : X.together (rot c p) (rot c q) b = X.together p q b:=by
 have h':=h.rot hc
 unfold X.together
 rw [h'.len0.1,h'.len0.2,h.len0.1,h.len0.2]
 refine MathWp.tab_cong _ _ (fun i j _ _=>?_)
 rw [cstAll_zip h'.pq i j _ (Nat.le_refl _),cstAll_zip h.pq i j _ (Nat.le_refl _),List.take_of_length_le (by rw [zip_len h'.pq];exact Nat.le_refl _),List.take_of_length_le (by rw [zip_len h.pq];exact Nat.le_refl _),rot_zip c p q h.pq,rot_sum]
theorem euSum_rot {p q : List (List Int)} {n m : Nat} {b : Int} (h : Fit p q n m b) {c : Nat} (hc : c ≤ p.length) : euSum (rot c p) (rot c q) (rot c p).length = euSum p q p.length:=by
 have h':=h.rot hc
 rw [euSum_zip h'.pq _ (Nat.le_refl _),euSum_zip h.pq _ (Nat.le_refl _),List.take_of_length_le (by rw [zip_len h'.pq];exact Nat.le_refl _),List.take_of_length_le (by rw [zip_len h.pq];exact Nat.le_refl _),rot_zip c p q h.pq,rot_sum]
/-- Whatever is among the one bundles' gaps is among the others'. -/
theorem gp_mem {p q p' q' : List (List Int)} (h : p.length = q.length) (h' : p'.length = q'.length) (hm : ∀ z,z ∈ p.zip q → z ∈ p'.zip q') {j : Nat} (hj : j < p.length) : ∃ i,i < p'.length∧gp p q j = gp p' q' i:=by
 have hz : j < (p.zip q).length:=by rw [zip_len h];exact hj
 obtain ⟨i,hi,e⟩:=List.getElem_of_mem (hm _ (List.getElem_mem hz))
 have hi' : i < p'.length:=by rw [zip_len h'] at hi;exact hi
 rw [zip_at h hj hz,zip_at h' hi' hi] at e
 injection e with e1 e2
 exact ⟨i,hi',by unfold gp;rw [e1,e2]⟩
theorem grL_le {p q p' q' : List (List Int)} {n : Nat} {b b' : Int} (h : Fit p q n n b) (h' : Fit p' q' n n b') (hm : ∀ z,z ∈ p.zip q → z ∈ p'.zip q') : le2 (grL p q p.length) (grL p' q' p'.length):=by
 obtain ⟨r1,r2,r3⟩:=grL_facts h p.length (Nat.le_refl _)
 obtain ⟨s1,s2,s3⟩:=grL_facts h' p'.length (Nat.le_refl _)
 rcases r3 with e|⟨j,hj,e⟩
 ·
  rw [e]
  unfold le2
  have:=s1.1
  dsimp only
  omega
 ·
  obtain ⟨i,hi,e2⟩:=gp_mem h.pq h'.pq hm hj
  rw [e,e2]
  exact s2 i hi
theorem grL_rot {p q : List (List Int)} {n : Nat} {b : Int} (h : Fit p q n n b) {c : Nat} (hc : c ≤ p.length) : grL (rot c p) (rot c q) (rot c p).length = grL p q p.length:=by
 have h':=h.rot hc
 have a:=grL_le h' h (fun z hz=>by rw [rot_zip c p q h.pq] at hz;exact (rot_mem c _ z).1 hz)
 have d:=grL_le h h' (fun z hz=>by rw [rot_zip c p q h.pq];exact (rot_mem c _ z).2 hz)
 exact RV_eq (grL_facts h' _ (Nat.le_refl _)).1 (grL_facts h _ (Nat.le_refl _)).1 (Int.le_antisymm a d)
theorem ChannelsOrder : shapesearchlaw16_ChannelsOrder.Pure:=by
 intro l0 a1 h1 h2 h3 ha
 refine EvP.rounds ?_
 unfold shapesearchlaw16_ChannelsOrder.f
 refine EvP.bind (keep_New l0 h3 h1) (fun s hs=>EvP.bind (bundles_is s.1 s.2 hs) (fun u hu=>?_))
 obtain ⟨n,m,hf⟩:=hu
 obtain ⟨p,q,b,s1⟩:=u
 dsimp only at hf ⊢
 have hab:=b_u8 ha
 have p1:=hf.p1
 have p4:=hf.p4
 have pq:=hf.pq
 obtain ⟨c,hc,hcl⟩ : ∃ c : Nat,Int.tmod (wrap64 a1) (p.length : Int) = (c : Int)∧c ≤ p.length:=by
  rw [w64 (by omega) (by omega)]
  obtain ⟨t,rfl⟩:=Int.eq_ofNat_of_zero_le hab.1
  refine ⟨t % p.length,rfl,?_⟩
  have:=Nat.mod_lt t (show p.length > 0 by omega)
  omega
 rw [hc]
 simp only [Int.toNat_natCast,Option.bind_some,List.nil_append]
 have hfr:=hf.rot hcl
 have e1:=apart_rot hf hcl
 have e2:=together_rot hf hcl
 have lp : ((rd_L1 p 0).length : Int) = (n : Int):=by have:=hf.len0.1;rw [← rdL_chn] at this;exact congrArg _ this
 have lq : ((rd_L1 q 0).length : Int) = (m : Int):=by have:=hf.len0.2;rw [← rdL_chn] at this;exact congrArg _ this
 have dl : (p.drop c).length ≤ 4:=by rw [List.length_drop];omega
 have tl : (p.take c).length ≤ 4:=by rw [List.length_take];omega
 have dl' : (q.drop c).length ≤ 4:=by rw [List.length_drop];omega
 have tl' : (q.take c).length ≤ 4:=by rw [List.length_take];omega
 refine EvP.neg (by omega) (EvP.pos (by omega) (EvP.pos (by omega) (EvP.pos (by simp only [List.length_nil];omega) (EvP.pos (by omega) (EvP.pos (by omega) (EvP.pos (by simp only [List.length_nil];omega) (EvP.pos (by omega) ?_)))))))
 change EvP (fun n=>(channels_Apart.f n p q b).bind fun bt387=>((channels_Apart.f n (rot c p) (rot c q) b).bind fun bt389=>((channels_Together.f n p q b).bind fun bt391=>((channels_Together.f n (rot c p) (rot c q) b).bind fun bt393=>_)))) _
 refine EvP.bind1 (Apart_is hf) (EvP.bind1 (Apart_is hfr) (EvP.bind1 (Together_is hf) (EvP.bind1 (Together_is hfr) (EvP.pos rfl (EvP.pos rfl (EvP.pos rfl (EvP.pos rfl (EvP.pos e1.symm ?_))))))))
 dsimp only
 rw [e2,bne_self_eq_false]
 refine EvP.step (fun k=>by rw [shapesearchlaw16_ChannelsOrder.j0]) (EvP.neg (by simp) (EvP.pos (by omega) (EvP.pos (by omega) ?_)))
 rw [lp,lq]
 by_cases hnm : n = m
 ·
  subst hnm
  have g1:=Euclid_is hf
  have g2:=Euclid_is hfr
  have g3:=Greatest_is hf
  have g4:=Greatest_is hfr
  rw [euSum_rot hf hcl] at g2
  rw [grL_rot hf hcl] at g4
  refine EvP.pos rfl (EvP.bind1 g1 (EvP.bind1 g2 (EvP.bind1 g3 (EvP.bind1 g4 (EvP.pos rfl (EvP.pos rfl (EvP.pos rfl (EvP.pos rfl (EvP.pos rfl (EvP.pos (by simp) (EvP.bind1 awake_is (EvP.ret rfl))))))))))))
 ·
  exact EvP.neg (by omega) (EvP.bind1 awake_is (EvP.ret rfl))

end Go.Proofs.Ytodipcfbgnljeaa.Pure
