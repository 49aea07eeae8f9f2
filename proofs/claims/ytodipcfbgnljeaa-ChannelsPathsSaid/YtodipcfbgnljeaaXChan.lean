/- This file proves what Apart and Together of package channels compute, for bundles that fit: tables of the cheapest paths. -/
import Derived.Test.YtodipcfbgnljeaaXLeast
import Derived.Deep.QuietTactic
import Derived.BigQuiet
import Derived.Deep.DeepCutAuto
import Derived.Laws.EntriesVeiled
set_option linter.unusedVariables false
set_option linter.unusedSimpArgs false
namespace Go.Proofs.Ytodipcfbgnljeaa.X
open Go.RowKit Go.Proofs.YtodipcfbgnljeaaW.PrintWords Go.Proofs.YtodipcfbgnljeaaW.PrintLast Go.Proofs.YtodipcfbgnljeaaW.PrintMore Go.Proofs.Ytodipcfbgnljeaa.MathWp

/-- A channel of a bundle; a cost. -/
def chn (l : List (List Int)) (k : Nat) : List Int := l.getD k []
def cst (l0 l1 : List (List Int)) (k i j : Nat) : Int := ((chn l0 k).getD i 0 - (chn l1 k).getD j 0) * ((chn l0 k).getD i 0 - (chn l1 k).getD j 0)
def cstAll (l0 l1 : List (List Int)) : Nat → Nat → Nat → Int
  | 0, _, _ => 0
  | k + 1, i, j => cstAll l0 l1 k i j + cst l0 l1 k i j
def apSum (l0 l1 : List (List Int)) (b : Int) : Nat → Int
  | 0 => 0
  | k + 1 => apSum l0 l1 b k + tab b (cst l0 l1 k) ((chn l0 0).length - 1) ((chn l1 0).length - 1)
def apart (l0 l1 : List (List Int)) (b : Int) : Int := apSum l0 l1 b l0.length
def together (l0 l1 : List (List Int)) (b : Int) : Int := tab b (cstAll l0 l1 l0.length) ((chn l0 0).length - 1) ((chn l1 0).length - 1)
/-- Bundles that fit. -/
def OkC (l0 l1 : List (List Int)) (b : Int) : Prop := (0 ≤ b ∧ b ≤ 32 ∧ near b ((chn l0 0).length - 1) ((chn l1 0).length - 1)) ∧ (1 ≤ l0.length ∧ l0.length ≤ 4 ∧ l0.length = l1.length) ∧ (1 ≤ (chn l0 0).length ∧ (chn l0 0).length ≤ 32 ∧ 1 ≤ (chn l1 0).length ∧ (chn l1 0).length ≤ 32) ∧
  (∀ x ∈ l0, x.length = (chn l0 0).length ∧ ∀ v ∈ x, -1000 ≤ v ∧ v ≤ 1000) ∧ (∀ x ∈ l1, x.length = (chn l1 0).length ∧ ∀ v ∈ x, -1000 ≤ v ∧ v ≤ 1000)
instance (l0 l1 : List (List Int)) (b : Int) : Decidable (OkC l0 l1 b) := by unfold OkC; infer_instance
theorem mem_getD {l : List Int} (h : ∀ v ∈ l, -1000 ≤ v ∧ v ≤ 1000) (i : Nat) : -1000 ≤ l.getD i 0 ∧ l.getD i 0 ≤ 1000 := by
  rw [List.getD_eq_getElem?_getD]
  by_cases hi : i < l.length
  · rw [List.getElem?_eq_getElem hi]; exact h _ (List.getElem_mem hi)
  · rw [List.getElem?_eq_none (by omega)]; simp
theorem chn_mem {l : List (List Int)} {k : Nat} (h : k < l.length) : chn l k ∈ l := by
  unfold chn
  rw [List.getD_eq_getElem?_getD, List.getElem?_eq_getElem h]
  exact List.getElem_mem h
theorem chn_val {l : List (List Int)} (h : ∀ x ∈ l, ∀ v ∈ x, -1000 ≤ v ∧ v ≤ 1000) (k i : Nat) : -1000 ≤ (chn l k).getD i 0 ∧ (chn l k).getD i 0 ≤ 1000 := by
  by_cases hk : k < l.length
  · exact mem_getD (h _ (chn_mem hk)) i
  · unfold chn
    rw [List.getD_eq_getElem?_getD (l := l), List.getElem?_eq_none (by omega)]
    simp
theorem sq_bound {a b : Int} (h1 : -1000 ≤ a ∧ a ≤ 1000) (h2 : -1000 ≤ b ∧ b ≤ 1000) : 0 ≤ (a - b) * (a - b) ∧ (a - b) * (a - b) ≤ 4000000 := by
  have h3 : -2000 ≤ a - b := by omega
  have h4 : a - b ≤ 2000 := by omega
  generalize a - b = d at *
  rcases Int.le_total 0 d with h | h
  · exact ⟨Int.mul_nonneg h h, Int.mul_le_mul h4 h4 h (by omega)⟩
  · have := Int.mul_le_mul (show -d ≤ 2000 by omega) (show -d ≤ 2000 by omega) (show 0 ≤ -d by omega) (show (0 : Int) ≤ 2000 by omega)
    rw [Int.neg_mul_neg] at this
    exact ⟨by rw [← Int.neg_mul_neg]; exact Int.mul_nonneg (by omega) (by omega), this⟩
theorem cst_b {l0 l1 : List (List Int)} (h0 : ∀ x ∈ l0, ∀ v ∈ x, -1000 ≤ v ∧ v ≤ 1000) (h1 : ∀ x ∈ l1, ∀ v ∈ x, -1000 ≤ v ∧ v ≤ 1000) (k i j : Nat) : 0 ≤ cst l0 l1 k i j ∧ cst l0 l1 k i j ≤ 4000000 := sq_bound (chn_val h0 k i) (chn_val h1 k j)
theorem cstAll_b {l0 l1 : List (List Int)} (h0 : ∀ x ∈ l0, ∀ v ∈ x, -1000 ≤ v ∧ v ≤ 1000) (h1 : ∀ x ∈ l1, ∀ v ∈ x, -1000 ≤ v ∧ v ≤ 1000) (k i j : Nat) : 0 ≤ cstAll l0 l1 k i j ∧ cstAll l0 l1 k i j ≤ 4000000 * (k : Int) := by
  induction k with
  | zero => simp [cstAll]
  | succ k ih => have := cst_b h0 h1 k i j; unfold cstAll; omega
/-- An inner row of a row of rows. -/
theorem at_row {w : World} {A : Option Addr} {xs : List (List Int)} (h : Kd.C (Kd.slice 3 (Kd.int .i64)) w A xs.length xs) (k : Nat) (hk : k < xs.length) : ∃ ad A0 c0, A = some ad ∧ w.cell? (ad.add k) = some (.slice A0 (chn xs k).length c0) ∧ Kd.C (Kd.int .i64) w A0 (chn xs k).length (chn xs k) := by
  obtain ⟨ad, c, e, _, hK, hc0⟩ := Kd.C_get h ([] : List Int) (k : Int) (by omega) (by omega)
  have hc : ∀ j u, c[j]? = some u → w.cell? (ad.add (((k : Int)).toNat * 1 + j)) = some u := hc0
  obtain ⟨A0, c0, rfl, l0, g0⟩ := hK
  rw [Int.toNat_natCast] at hc
  exact ⟨ad, A0, c0, e, by have hq := hc 0 _ rfl; rwa [Nat.mul_one, Nat.add_zero] at hq, g0⟩
theorem at_num {w : World} {A : Option Addr} {xs : List Int} (h : Kd.C (Kd.int .i64) w A xs.length xs) (i : Nat) (hi : i < xs.length) : ∃ ad, A = some ad ∧ w.cell? (ad.add i) = some (.int .i64 (xs.getD i 0)) := by
  obtain ⟨ad, e, hx⟩ := Kd.at_int h (i : Int) (by omega) (by omega)
  refine ⟨ad, e, ?_⟩
  unfold rd at hx
  rwa [Int.toNat_natCast] at hx
theorem sq_calls (a b : Int) (ha : -1000 ≤ a ∧ a ≤ 1000) (hb : -1000 ≤ b ∧ b ≤ 1000) (w : World) : Calls Try.prog 34 #[.int .i64 a, .int .i64 b] w fun e w' => e = .returned (.int .i64 ((a - b) * (a - b))) ∧ w' = w := by
  have hw : IntKind.i64.wrap (a - b) = a - b := IntWalk.i64_in _ (by omega)
  have hs := sq_bound ha hb
  have hw2 : IntKind.i64.wrap ((a - b) * (a - b)) = (a - b) * (a - b) := IntWalk.i64_in _ (by omega)
  clear ha hb hs
  go_enter Try.func34, Try.ntmps34
  go_wp2_with fail
  go_ret
  exact ⟨rfl, rfl⟩
set_option maxHeartbeats 4000000 in
set_option maxRecDepth 1000000 in
theorem clo3 (px pk py : Nat) (A0 A1 : Option Addr) (c0 c1 : Nat) (l0 l1 : List (List Int)) (k i j : Nat) (zi zj : Int) (w : World) (hzi : zi = (i : Int)) (hzj : zj = (j : Int))
    (hx : w.heap[px]? = some (.cells #[.slice A0 l0.length c0] 23 (0, 0))) (hk : w.heap[pk]? = some (.cells #[.int .i64 (k : Int)] 3 (0, 0))) (hy : w.heap[py]? = some (.cells #[.slice A1 l1.length c1] 23 (0, 0)))
    (hr0 : Kd.C (Kd.slice 3 (Kd.int .i64)) w A0 l0.length l0) (hr1 : Kd.C (Kd.slice 3 (Kd.int .i64)) w A1 l1.length l1) (hk0 : k < l0.length) (hk1 : k < l1.length) (hi : i < (chn l0 k).length) (hj : j < (chn l1 k).length)
    (h0 : ∀ x ∈ l0, ∀ v ∈ x, -1000 ≤ v ∧ v ≤ 1000) (h1 : ∀ x ∈ l1, ∀ v ∈ x, -1000 ≤ v ∧ v ≤ 1000) :
    Calls Try.prog 33 #[.int .i64 zi, .int .i64 zj, .pointer (some ⟨px, 0, none⟩), .pointer (some ⟨pk, 0, none⟩), .pointer (some ⟨py, 0, none⟩)] w fun e w' => e = .returned (.int .i64 (cst l0 l1 k i j)) ∧ Below w.heap.size w w' := by
  have bx := (blk_cell hx 0).trans rfl
  have bk := (blk_cell hk 0).trans rfl
  have by_ := (blk_cell hy 0).trans rfl
  obtain ⟨ad0, B0, d0, rfl, e0, g0⟩ := at_row hr0 k hk0
  obtain ⟨ad1, B1, d1, rfl, e1, g1⟩ := at_row hr1 k hk1
  obtain ⟨b0, rfl, f0⟩ := at_num g0 i hi
  obtain ⟨b1, rfl, f1⟩ := at_num g1 j hj
  have HQ := Aside0.mk (fun n_ : Nat => Calls.quiet_of_same (n := n_) (sq_calls _ _ (chn_val h0 k i) (chn_val h1 k j) (w.drewN n_)))
  have hv : cst l0 l1 k i j = ((chn l0 k).getD i 0 - (chn l1 k).getD j 0) * ((chn l0 k).getD i 0 - (chn l1 k).getD j 0) := rfl
  rw [hv]
  clear hv h0 h1 g0 g1 hr0 hr1 hx hk hy
  generalize (chn l0 k).getD i 0 = u0 at *
  generalize (chn l1 k).getD j 0 = u1 at *
  generalize (chn l0 k).length = n0 at *
  generalize (chn l1 k).length = n1 at *
  generalize l0.length = m0 at *
  generalize l1.length = m1 at *
  subst hzi
  subst hzj
  have i1 : (k : Int) < (m0 : Int) := by omega
  have i2 : (k : Int) < (m1 : Int) := by omega
  have i3 : (i : Int) < (n0 : Int) := by omega
  have i4 : (j : Int) < (n1 : Int) := by omega
  clear hk0 hk1 hi hj
  go_enter Try.func33, Try.ntmps33
  go_upto_region 1 with (fail)
  go_quiet ((go_at_call 34; with_reducible exact HQ.out _))
  go_wp2_with fail
  go_ret
  exact ⟨rfl, pw_below_drewN (Below.refl _ _) _⟩
set_option maxHeartbeats 4000000 in
set_option maxRecDepth 1000000 in
theorem clo2 (px py : Nat) (A0 A1 : Option Addr) (c0 c1 : Nat) (l0 l1 : List (List Int)) (i j : Nat) (zi zj : Int) (w : World) (hzi : zi = (i : Int)) (hzj : zj = (j : Int)) (hl4 : l0.length ≤ 4)
    (hx : w.heap[px]? = some (.cells #[.slice A0 l0.length c0] 23 (0, 0))) (hy : w.heap[py]? = some (.cells #[.slice A1 l1.length c1] 23 (0, 0)))
    (hr0 : Kd.C (Kd.slice 3 (Kd.int .i64)) w A0 l0.length l0) (hr1 : Kd.C (Kd.slice 3 (Kd.int .i64)) w A1 l1.length l1) (hll : l0.length = l1.length) (hi : ∀ k, k < l0.length → i < (chn l0 k).length) (hj : ∀ k, k < l1.length → j < (chn l1 k).length)
    (h0 : ∀ x ∈ l0, ∀ v ∈ x, -1000 ≤ v ∧ v ≤ 1000) (h1 : ∀ x ∈ l1, ∀ v ∈ x, -1000 ≤ v ∧ v ≤ 1000) :
    Calls Try.prog 36 #[.int .i64 zi, .int .i64 zj, .pointer (some ⟨px, 0, none⟩), .pointer (some ⟨py, 0, none⟩)] w fun e w' => e = .returned (.int .i64 (cstAll l0 l1 l0.length i j)) ∧ Below w.heap.size w w' := by
  have HX := Aside0.mk hx
  have HY := Aside0.mk hy
  have HR0 := Aside0.mk hr0
  have HR1 := Aside0.mk hr1
  have HI := Aside0.mk hi
  have HJ := Aside0.mk hj
  have H0 := Aside0.mk h0
  have H1 := Aside0.mk h1
  have HZI := Aside0.mk hzi
  have HZJ := Aside0.mk hzj
  have bx := (blk_cell hx 0).trans rfl
  clear hx hy hr0 hr1 hi hj h0 h1 hzi hzj
  go_enter Try.func36, Try.ntmps36
  go_wp2_with fail
  clear bx
  go_loopg [7, 11] l0.length (fun gk s7 s11 wx => ∃ k : Nat, k + gk = l0.length ∧ s7 = .int .i64 (cstAll l0 l1 k i j) ∧ s11 = .int .i64 k ∧ Aside0 (Below w.heap.size w wx))
  case atStart => exact ⟨0, by omega, rfl, rfl, ⟨Below.refl _ _⟩⟩
  case round =>
    obtain ⟨k, hkg, rfl, rfl, HB⟩ := hrel
    cases gk with
    | zero =>
      obtain rfl : k = l0.length := by omega
      go_wp2_with fail
      go_ret
      exact ⟨rfl, HB.out⟩
    | succ g =>
      have hk0 : k < l0.length := by omega
      have hk1 : k < l1.length := by omega
      have bx := (blk_cell (blk_below HX.out HB.out) 0).trans rfl
      have by_ := (blk_cell (blk_below HY.out HB.out) 0).trans rfl
      obtain ⟨ad0, B0, d0, rfl, e0, g0⟩ := at_row (Kd.C_below HR0.out HB.out) k hk0
      obtain ⟨ad1, B1, d1, rfl, e1, g1⟩ := at_row (Kd.C_below HR1.out HB.out) k hk1
      obtain ⟨b0, rfl, f0⟩ := at_num g0 i (HI.out k hk0)
      obtain ⟨b1, rfl, f1⟩ := at_num g1 j (HJ.out k hk1)
      have HQ := Aside0.mk (fun n_ : Nat => Calls.quiet_of_same (n := n_) (sq_calls _ _ (chn_val H0.out k i) (chn_val H1.out k j) (wr.drewN n_)))
      have i1 : (k : Int) < (l0.length : Int) := by omega
      have i2 : (k : Int) < (l1.length : Int) := by omega
      obtain ⟨n0, hn0⟩ : ∃ n0 : Nat, n0 = (chn l0 k).length := ⟨_, rfl⟩
      obtain ⟨n1, hn1⟩ : ∃ n1 : Nat, n1 = (chn l1 k).length := ⟨_, rfl⟩
      have i3 : zi < (n0 : Int) := by have := HI.out k hk0; have := HZI.out; omega
      have i4 : zj < (n1 : Int) := by have := HJ.out k hk1; have := HZJ.out; omega
      have i5 : 0 ≤ zi := by have := HZI.out; omega
      have i6 : 0 ≤ zj := by have := HZJ.out; omega
      rw [← hn0] at e0
      rw [← hn1] at e1
      have ei : zi.toNat = i := by have := HZI.out; omega
      have ej : zj.toNat = j := by have := HZJ.out; omega
      have hb0 := cstAll_b H0.out H1.out k i j
      have hb1 := cst_b H0.out H1.out k i j
      have hs : IntKind.i64.wrap (cstAll l0 l1 k i j + cst l0 l1 k i j) = cstAll l0 l1 (k + 1) i j := (IntWalk.i64_in _ (by omega)).trans rfl
      have hs3 : IntKind.i64.wrap ((k : Int) + 1) = (k : Int) + 1 := IntWalk.i64_in _ (by omega)
      rw [show ((chn l0 k).getD i 0 - (chn l1 k).getD j 0) * ((chn l0 k).getD i 0 - (chn l1 k).getD j 0) = cst l0 l1 k i j from rfl] at HQ
      clear hb0 hb1 hk0 hk1 hn0 hn1 g0 g1
      obtain ⟨ac, hac⟩ : ∃ ac, ac = cstAll l0 l1 (k + 1) i j := ⟨_, rfl⟩
      rw [← hac] at hs
      have HAC := Aside0.mk hac
      clear hac
      generalize cst l0 l1 k i j = cc at hs HQ
      rw [← ei, ← ej] at HQ
      rw [← ei] at f0
      rw [← ej] at f1
      clear ei ej
      generalize (chn l0 k).getD zi.toNat 0 = u0 at f0 HQ
      generalize (chn l1 k).getD zj.toNat 0 = u1 at f1 HQ
      generalize cstAll l0 l1 k i j = a0 at hs ⊢
      go_upto_region 5 with (fail)
      go_quiet ((go_at_call 34; with_reducible exact HQ.out _))
      go_wp2_with fail
      go_roundg g
      case measure => omega
      case rel => exact ⟨k + 1, by omega, by rw [HAC.out], by first | rfl | simp, ⟨pw_below_drewN HB.out _⟩⟩
set_option maxHeartbeats 1600000 in
theorem apart_no (A0 : Option Addr) (c0 : Nat) (l0 : List (List Int)) (A1 : Option Addr) (c1 : Nat) (l1 : List (List Int)) (b r : Int) (w : World) (hr : r ≠ 0)
    (hchk : Aside0 (∀ W : World, Below w.heap.size w W → Calls Try.prog 32 #[.slice A0 l0.length c0, .slice A1 l1.length c1, .int .i64 b] W fun e w' => e = .returned (.int .i64 r) ∧ Below W.heap.size W w')) :
    Calls Try.prog 11 #[.slice A0 l0.length c0, .slice A1 l1.length c1, .int .i64 b] w fun e w' => e = .returned (.tuple #[.int .i64 0, .int .i64 r]) ∧ Below w.heap.size w w' := by
  have hb : (r != 0) = true := bne_iff_ne.2 hr
  have hx := (blk_cell (blk_alloc (heap_alloc_new w (.cells #[.slice A0 l0.length c0] 23)) (.cells #[.slice A1 l1.length c1] 23)) 0).trans rfl
  clear hr
  go_enter Try.func11, Try.ntmps11
  have HB := Aside0.mk (show Below w.heap.size w ((w.alloc (.cells #[.slice A0 l0.length c0] 23)).alloc (.cells #[.slice A1 l1.length c1] 23)) from ((Below.refl _ _).alloc (Nat.le_refl _) _).alloc (by simp) _)
  go_wp2_with (go_at_call 32; refine (hchk.out _ HB.out).mono ?_; rintro e w1 ⟨rfl, hb1⟩; have HB1 := Aside0.mk (below_step HB.out hb1))
  go_ret2
  exact ⟨rfl, HB1.out⟩
set_option maxHeartbeats 1600000 in
theorem together_no (A0 : Option Addr) (c0 : Nat) (l0 : List (List Int)) (A1 : Option Addr) (c1 : Nat) (l1 : List (List Int)) (b r : Int) (w : World) (hr : r ≠ 0)
    (hchk : Aside0 (∀ W : World, Below w.heap.size w W → Calls Try.prog 32 #[.slice A0 l0.length c0, .slice A1 l1.length c1, .int .i64 b] W fun e w' => e = .returned (.int .i64 r) ∧ Below W.heap.size W w')) :
    Calls Try.prog 12 #[.slice A0 l0.length c0, .slice A1 l1.length c1, .int .i64 b] w fun e w' => e = .returned (.tuple #[.int .i64 0, .int .i64 r]) ∧ Below w.heap.size w w' := by
  have hb : (r != 0) = true := bne_iff_ne.2 hr
  have hx := (blk_cell (blk_alloc (heap_alloc_new w (.cells #[.slice A0 l0.length c0] 23)) (.cells #[.slice A1 l1.length c1] 23)) 0).trans rfl
  clear hr
  go_enter Try.func12, Try.ntmps12
  have HB := Aside0.mk (show Below w.heap.size w ((w.alloc (.cells #[.slice A0 l0.length c0] 23)).alloc (.cells #[.slice A1 l1.length c1] 23)) from ((Below.refl _ _).alloc (Nat.le_refl _) _).alloc (by simp) _)
  go_wp2_with (go_at_call 32; refine (hchk.out _ HB.out).mono ?_; rintro e w1 ⟨rfl, hb1⟩; have HB1 := Aside0.mk (below_step HB.out hb1))
  go_ret2
  exact ⟨rfl, HB1.out⟩
theorem rows_of {l0 : List (List Int)} {n : Nat} (h : ∀ x ∈ l0, x.length = n ∧ ∀ v ∈ x, -1000 ≤ v ∧ v ≤ 1000) : (∀ k, k < l0.length → (chn l0 k).length = n) ∧ ∀ x ∈ l0, ∀ v ∈ x, -1000 ≤ v ∧ v ≤ 1000 := ⟨fun k hk => (h _ (chn_mem hk)).1, fun x hx => (h x hx).2⟩
set_option maxHeartbeats 8000000 in
set_option maxRecDepth 1000000 in
theorem together_yes (A0 : Option Addr) (c0 : Nat) (l0 : List (List Int)) (A1 : Option Addr) (c1 : Nat) (l1 : List (List Int)) (b : Int) (w : World) (hr0 : Kd.C (Kd.slice 3 (Kd.int .i64)) w A0 l0.length l0) (hr1 : Kd.C (Kd.slice 3 (Kd.int .i64)) w A1 l1.length l1) (ok : OkC l0 l1 b)
    (hchk : Aside0 (∀ W : World, Below w.heap.size w W → Calls Try.prog 32 #[.slice A0 l0.length c0, .slice A1 l1.length c1, .int .i64 b] W fun e w' => e = .returned (.int .i64 0) ∧ Below W.heap.size W w')) :
    Calls Try.prog 12 #[.slice A0 l0.length c0, .slice A1 l1.length c1, .int .i64 b] w fun e w' => e = .returned (.tuple #[.int .i64 (together l0 l1 b), .int .i64 0]) ∧ Below w.heap.size w w' := by
  obtain ⟨⟨hb0, hb32, hnear⟩, ⟨hk1, hk4, hkl⟩, ⟨hn1, hn32, hm1, hm32⟩, hrow0, hrow1⟩ := ok
  obtain ⟨hlen0, hv0⟩ := rows_of hrow0
  obtain ⟨hlen1, hv1⟩ := rows_of hrow1
  clear hrow0 hrow1
  obtain ⟨n, hn⟩ : ∃ n, n = (chn l0 0).length := ⟨_, rfl⟩
  obtain ⟨m, hm⟩ : ∃ m, m = (chn l1 0).length := ⟨_, rfl⟩
  have ht : together l0 l1 b = tab b (cstAll l0 l1 l0.length) (n - 1) (m - 1) := by rw [hn, hm]; rfl
  rw [ht]
  rw [← hn] at hn1 hn32 hlen0
  rw [← hm] at hm1 hm32 hlen1
  have HR0 := Aside0.mk hr0
  have HR1 := Aside0.mk hr1
  have HV0 := Aside0.mk hv0
  have HV1 := Aside0.mk hv1
  have HL0 := Aside0.mk hlen0
  have HL1 := Aside0.mk hlen1
  have HKL := Aside0.mk hkl
  have hkp1 : 0 < l1.length := by omega
  clear hkl
  clear hnear
  clear ht hr0 hr1 hv0 hv1 hlen0 hlen1
  have HX0 := Aside0.mk (blk_alloc (heap_alloc_new w (.cells #[.slice A0 l0.length c0] 23)) (.cells #[.slice A1 l1.length c1] 23))
  have HY0 := Aside0.mk (show ((w.alloc (.cells #[.slice A0 l0.length c0] 23)).alloc (.cells #[.slice A1 l1.length c1] 23)).heap[w.heap.size + 1]? = some (.cells #[.slice A1 l1.length c1] 23 (0, 0)) from by have := heap_alloc_new (w.alloc (.cells #[.slice A0 l0.length c0] 23)) (.cells #[.slice A1 l1.length c1] 23); rwa [World.size_alloc] at this)
  have HB := Aside0.mk (show Below w.heap.size w ((w.alloc (.cells #[.slice A0 l0.length c0] 23)).alloc (.cells #[.slice A1 l1.length c1] 23)) from ((Below.refl _ _).alloc (Nat.le_refl _) _).alloc (by simp) _)
  go_enter Try.func12, Try.ntmps12
  go_upto_region 1 with (fail)
  generalize (w.alloc (Obj.cells #[.slice A0 l0.length c0] 23)).alloc (Obj.cells #[.slice A1 l1.length c1] 23) = W0 at HX0 HY0 HB ⊢
  have bx := (blk_cell HX0.out 0).trans rfl
  have by_ := (blk_cell HY0.out 0).trans rfl
  go_upto_region 4 with (go_at_call 32; refine (hchk.out _ HB.out).mono ?_; rintro e w1 ⟨rfl, hb1⟩)
  have HX := Aside0.mk (blk_below HX0.out hb1)
  have HY := Aside0.mk (blk_below HY0.out hb1)
  have HB1 := Aside0.mk (below_step HB.out hb1)
  clear hb1 HX0 HY0 HB bx by_ hchk
  clear W0
  have bx := (blk_cell HX.out 0).trans rfl
  have by_ := (blk_cell HY.out 0).trans rfl
  obtain ⟨ad0, B0, d0, rfl, e0, g0⟩ := at_row (Kd.C_below HR0.out HB1.out) 0 (by omega)
  obtain ⟨ad1, B1, d1, rfl, e1, g1⟩ := at_row (Kd.C_below HR1.out HB1.out) 0 (by omega)
  rw [← hn] at e0
  rw [← hm] at e1
  have i1 : (0 : Int) < (l0.length : Int) := by omega
  have i1n : 0 < l0.length := by omega
  have i2 : (0 : Int) < (l1.length : Int) := by omega
  rw [show ad0.add 0 = ad0 by cases ad0; rfl] at e0
  rw [show ad1.add 0 = ad1 by cases ad1; rfl] at e1
  clear g0 g1 hn hm
  go_cut [9] (fun s9 wx => ∃ g, s9 = .pointer (some ⟨g, 0, none⟩) ∧ Aside0 (wx.heap[g]? = some (.cells #[.int .i64 (n : Int), .int .i64 (m : Int), .int .i64 b, .func (.func 36) #[] #[.pointer (some ⟨w.heap.size, 0, none⟩), .pointer (some ⟨w.heap.size + 1, 0, none⟩)]] 59 (0, 0))) ∧ Aside0 (Below w1.heap.size w1 wx))
  case first =>
    go_region_held3 (fun W => W.cell? ⟨w.heap.size, 0, none⟩ = some (.slice (some ad0) l0.length c0) ∧ W.cell? ⟨w.heap.size + 1, 0, none⟩ = some (.slice (some ad1) l1.length c1) ∧ W.cell? ad0 = some (.slice B0 n d0) ∧ W.cell? ad1 = some (.slice B1 m d1)) (go_keep) (fail)
    all_goals (go_wp2_with fail; go_meet)
    all_goals exact ⟨_, rfl, ⟨blk_drew (heap_alloc_new w1 _)⟩, ⟨below_drew ((Below.refl _ _).alloc (Nat.le_refl _) _)⟩⟩
  case rest =>
    obtain ⟨g, rfl, HG, HBg⟩ := hcut
    have s0 := (blk_cell HG.out 0).trans rfl
    have s1 := (blk_cell HG.out 1).trans rfl
    have s2 := (blk_cell HG.out 2).trans rfl
    have s3 := (blk_cell HG.out 3).trans rfl
    have HB2 := Aside0.mk (below_step HB1.out HBg.out)
    have HX2 := Aside0.mk (blk_below HX.out HBg.out)
    have HY2 := Aside0.mk (blk_below HY.out HBg.out)
    have HL := Aside0.mk (least2_calls n m b (cstAll l0 l1 l0.length) w.heap.size (w.heap.size + 1) _ hn1 hn32 hm1 hm32 hb0 hb32 (fun i j => (cstAll_b HV0.out HV1.out _ i j).1) (fun i j => by have := (cstAll_b HV0.out HV1.out l0.length i j).2; omega)
      ⟨fun i j zi zj W ei ej hi hj hW => clo2 w.heap.size (w.heap.size + 1) (some ad0) (some ad1) c0 c1 l0 l1 i j zi zj W ei ej hk4 (blk_below HX2.out hW) (blk_below HY2.out hW) (Kd.C_below HR0.out (below_step HB2.out hW)) (Kd.C_below HR1.out (below_step HB2.out hW)) HKL.out (fun k hk => by rw [HL0.out k hk]; exact hi) (fun k hk => by rw [HL1.out k hk]; exact hj) HV0.out HV1.out⟩)
    clear hk1 hk4 hn1 hn32 hm1 hm32 hb0 hb32 hkp1 i1 i2
    obtain ⟨res, hres⟩ : ∃ res, res = tab b (cstAll l0 l1 l0.length) (n - 1) (m - 1) := ⟨_, rfl⟩
    rw [← hres] at HL
    have HRES := Aside0.mk hres
    clear hres
    go_wp2_with (go_at_call 35; refine HL.out.mono ?_; rintro e w3 ⟨rfl, hb3⟩; have HB3 := Aside0.mk (below_step HB2.out hb3))
    go_ret2
    exact ⟨by rw [← HRES.out]; rfl, HB3.out⟩
end Go.Proofs.Ytodipcfbgnljeaa.X
