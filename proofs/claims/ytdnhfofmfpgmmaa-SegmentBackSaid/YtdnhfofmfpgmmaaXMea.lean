/- This file proves what Measure of the document's package segment tells: the number of samples, the least, the greatest, and their sum. -/
import Derived.Test.YtdnhfofmfpgmmaaXWords
import Derived.Test.YtdnhfofmfpgmmaaXLit
import Derived.Test.YtdnhfofmfpgmmaaXReg
import Derived.Test.YtdnhfofmfpgmmaaProg
import Derived.Deep.RegionHeld3
import Derived.Deep.DeepCutAuto
set_option linter.unusedVariables false
set_option linter.unusedSimpArgs false
namespace Go.Proofs.Ytdnhfofmfpgmmaa.XMea
open Go.RowKit Go.Proofs.YtdnhfofmfpgmmaaW.PrintWords Go.Proofs.YtdnhfofmfpgmmaaW.PrintLast Go.Proofs.YtdnhfofmfpgmmaaW.PrintMore
attribute [local go_sem] max2_int min2_int max_two min_two max_three min_three max_four min_four
def go : List Int → Int → Int → Int → (Int × Int × Int)
  | [], a, b, s => (a, b, s)
  | x :: t, a, b, s => go t (mn a x) (mx b x) (wrap64 (s + x))
theorem ld {w : World} {g : Nat} {x0 x1 x2 x3 x4 : Value} (h : w.heap[g]? = some (.cells #[x0, x1, x2, x3, x4] 27 (0, 0))) : w.cell? ⟨g, 0, none⟩ = some x0 ∧ w.cell? ⟨g, 1, none⟩ = some x1 ∧ w.cell? ⟨g, 2, none⟩ = some x2 ∧ w.cell? ⟨g, 3, none⟩ = some x3 ∧ w.cell? ⟨g, 4, none⟩ = some x4 :=
  ⟨(blk_cell h 0).trans rfl, (blk_cell h 1).trans rfl, (blk_cell h 2).trans rfl, (blk_cell h 3).trans rfl, (blk_cell h 4).trans rfl⟩
theorem fr {w : World} {g : Nat} {cs : Array Value} (h : w.heap[g]? = some (.cells cs 27 (0, 0))) : w.frozen? ⟨g, 0, none⟩ = false ∧ w.frozen? ⟨g, 1, none⟩ = false ∧ w.frozen? ⟨g, 2, none⟩ = false ∧ w.frozen? ⟨g, 3, none⟩ = false ∧ w.frozen? ⟨g, 4, none⟩ = false :=
  ⟨blk_frozen h 0, blk_frozen h 1, blk_frozen h 2, blk_frozen h 3, blk_frozen h 4⟩
theorem be {w W : World} {g : Nat} {a b c d e : Value} (h : Below w.heap.size w W) (hg : w.heap.size ≤ g) : Below w.heap.size w (((((W.setCell ⟨g, 0, none⟩ a).setCell ⟨g, 1, none⟩ b).setCell ⟨g, 2, none⟩ c).setCell ⟨g, 3, none⟩ d).setCell ⟨g, 4, none⟩ e) :=
  ((((h.setCell (p := ⟨g, 0, none⟩) hg a).setCell (p := ⟨g, 1, none⟩) hg b).setCell (p := ⟨g, 2, none⟩) hg c).setCell (p := ⟨g, 3, none⟩) hg d).setCell (p := ⟨g, 4, none⟩) hg e
theorem cell_far (W : World) (p : Addr) (v : Value) {q : Addr} (h : q.block ≠ p.block) : (W.setCell p v).cell? q = W.cell? q := World.cell?_setCell_other W _ _ _ (fun e => h (by rw [e]))
theorem blk_far_ {W : World} {g h : Nat} {o : Obj} {a b c : Value} (hx : W.heap[h]? = some o) (hne : h ≠ g) : (((W.setCell ⟨g, 2, none⟩ a).setCell ⟨g, 3, none⟩ b).setCell ⟨g, 4, none⟩ c).heap[h]? = some o :=
  (Below.heap_setCell _ ⟨g, 4, none⟩ c h hne).trans ((Below.heap_setCell _ ⟨g, 3, none⟩ b h hne).trans ((Below.heap_setCell _ ⟨g, 2, none⟩ a h hne).trans hx))
set_option maxHeartbeats 8000000 in
set_option maxRecDepth 100000 in
theorem calls (A0 : Option Addr) (c0 : Nat) (l0 : List Int) (r3 : Int) (r4 : Int) (r5 : Int) (w : World) (hr0 : Kd.C (Kd.int .i64) w A0 l0.length l0) (hl : 0 < l0.length) (hlm : l0.length ≤ 140737488351232) (hgo : go l0 (rd l0 0) (rd l0 0) 0 = (r3, r4, r5)) :
    Calls Try.prog 12 #[.slice A0 l0.length c0] w fun e w' => e = .returned (.agg #[.int .i64 0, .int .i64 (l0.length : Int), .int .i64 r3, .int .i64 r4, .int .i64 r5]) ∧ Below w.heap.size w w' := by
  have HR0 := Aside0.mk hr0
  clear hr0
  obtain ⟨x, hx⟩ : ∃ x, x = rd l0 0 := ⟨_, rfl⟩
  rw [← hx] at hgo
  have HG := Aside0.mk hgo
  obtain ⟨A, e0, hc⟩ := Kd.at_int HR0.out 0 (by omega) (by omega)
  cases e0
  rw [← hx] at hc
  clear hgo hx
  have hlt : decide ((l0.length : Int) < 1) = false := decide_eq_false (by omega)
  go_enter Try.func12, Try.ntmps12
  go_upto_region 1 with (fail)
  have HZ := Aside0.mk (heap_alloc_new w (Obj.cells #[.int .i64 0, .int .i64 0, .int .i64 0, .int .i64 0, .int .i64 0] 27))
  have HB := Aside0.mk ((Below.refl w.heap.size w).alloc (Nat.le_refl _) (Obj.cells #[.int .i64 0, .int .i64 0, .int .i64 0, .int .i64 0, .int .i64 0] 27))
  generalize w.alloc (Obj.cells #[.int .i64 0, .int .i64 0, .int .i64 0, .int .i64 0, .int .i64 0] 27) = W0 at HZ HB ⊢
  have hc : w.cell? A = some (Value.int IntKind.i64 x) := by cases A; exact hc
  have hc0 : W0.cell? A = some (Value.int IntKind.i64 x) := (HB.out.cell (World.block_lt_of_cell? _ _ hc)).trans hc
  go_cut [3] (fun s3 wx => ∃ g, s3 = .pointer (some ⟨g, 0, none⟩) ∧ w.heap.size ≠ g ∧ w.heap.size ≤ g ∧ Aside0 (wx.heap[g]? = some (.cells #[.int .i64 0, .int .i64 l0.length, .int .i64 x, .int .i64 x, .int .i64 0] 27 (0, 0))) ∧ Aside0 (wx.heap[w.heap.size]? = some (.cells #[.int .i64 0, .int .i64 0, .int .i64 0, .int .i64 0, .int .i64 0] 27 (0, 0))) ∧ Aside0 (Below w.heap.size w wx))
  case first =>
    go_region_held3 (fun W => W.cell? A = some (Value.int IntKind.i64 x)) (first | go_keep) (fail)
    all_goals (go_wp2_with fail; go_meet)
    all_goals refine ⟨_, rfl, ?_, ?_, ⟨?_⟩, ⟨?_⟩, ⟨?_⟩⟩
    all_goals have hw0 := blk_lt HZ.out
    all_goals have hw1 := HB.out.size
    all_goals first
      | (first | exact Nat.ne_of_lt hw0 | omega)
      | exact heap_alloc_new _ _
      | exact blk_alloc HZ.out _
      | exact HB.out.alloc hw1 _
      | exact below_drew (HB.out.alloc hw1 _)
  case rest =>
    obtain ⟨g, rfl, hne, hge, HQ, HZ1, HB1⟩ := hcut
    clear hc hc0 HB HZ W0
    go_wp2_with fail
    go_loopg [16] l0.length (fun gk s16 wx => ∃ (i : Nat) (z a b s : Int), s16 = .int .i64 z ∧ Aside0 (z = (i : Int)) ∧ i + gk = l0.length ∧ Aside0 (go (l0.drop i) a b s = (r3, r4, r5)) ∧ Aside0 (wx.heap[g]? = some (.cells #[.int .i64 0, .int .i64 l0.length, .int .i64 a, .int .i64 b, .int .i64 s] 27 (0, 0))) ∧ Aside0 (wx.heap[w.heap.size]? = some (.cells #[.int .i64 0, .int .i64 0, .int .i64 0, .int .i64 0, .int .i64 0] 27 (0, 0))) ∧ Aside0 (Below w.heap.size w wx))
    case atStart => exact ⟨0, 0, x, x, 0, rfl, ⟨rfl⟩, by omega, ⟨HG.out⟩, HQ, HZ1, HB1⟩
    case round =>
      clear HQ HZ1 HB1 HG
      obtain ⟨i, z, a, b, s, rfl, hz, hi, HG, HQ, HZ, HB⟩ := hrel
      cases gk with
      | zero =>
        have hd : decide (z < (l0.length : Int)) = false := decide_eq_false (by rw [hz.out]; omega)
        have hgo := HG.out
        rw [List.drop_of_length_le (by omega)] at hgo
        simp only [go, Prod.mk.injEq] at hgo
        obtain ⟨rfl, rfl, rfl⟩ := hgo
        obtain ⟨q0, q1, q2, q3, q4⟩ := ld HQ.out
        obtain ⟨f0, f1, f2, f3, f4⟩ := fr HZ.out
        obtain ⟨z0, z1, z2, z3, z4⟩ := ld HZ.out
        clear hi HG
        go_wp2_with fail
        exact bodyPost_ret (results_cell_row rfl _ _ w.heap.size 27 _ (0, 0) _ rfl (blk_set (blk_set (blk_set (blk_set (blk_set HZ.out 0 _) 1 _) 2 _) 3 _) 4 _) Try.underlying27 rfl (by kernel_rfl)) rfl ⟨rfl, be HB.out (Nat.le_refl _)⟩
      | succ gk =>
        have hd : decide (z < (l0.length : Int)) = true := decide_eq_true (by rw [hz.out]; omega)
        obtain ⟨A1, e1, hc1⟩ := Kd.at_int (Kd.C_below HR0.out HB.out) z (by rw [hz.out]; omega) (by rw [hz.out]; omega)
        cases e1
        have hnn : ¬ z < 0 := by rw [hz.out]; omega
        go_upto_region 5 with (fail)
        have hlt := World.block_lt_of_cell? _ _ hc1
        have hS : wr.drew.cell? (A.add z.toNat) = some (.int .i64 (rd l0 z)) := hc1
        have HQ := Aside0.mk (blk_drew HQ.out)
        have HZ := Aside0.mk (blk_drew HZ.out)
        have HB := Aside0.mk (below_drew HB.out)
        refine start_ (n := 27) (S := fun W => W.cell? (A.add z.toNat) = some (.int .i64 (rd l0 z))) (ds := []) #[false,false,false,false,false,false,false,false,false,false,false,false,false,false,false,false,false,false,false,false,false,false,false,false,false,false,false] (by kernel_rfl) rfl rfl hS (fun hHeld => ?_)
        generalize wr.drew = w1 at HQ HZ HB hHeld hS ⊢
        obtain ⟨q0, q1, q2, q3, q4⟩ := ld HQ.out
        obtain ⟨f0, f1, f2, f3, f4⟩ := fr HQ.out
        have p1 : (0 ≤ z) = True := eq_true (by rw [hz.out]; omega)
        have p2 : (z < (l0.length : Int)) = True := eq_true (by rw [hz.out]; omega)
        have hX : (A.add z.toNat).block ≠ g := by
          obtain ⟨A2, e2, hc2⟩ := Kd.at_int HR0.out z (by rw [hz.out]; omega) (by rw [hz.out]; omega)
          cases e2
          have := World.block_lt_of_cell? _ _ hc2
          omega
        have hS22 : ∀ v, (w1.setCell ⟨g, 2, none⟩ v).cell? (A.add z.toNat) = some (.int .i64 (rd l0 z)) := fun v => (cell_far w1 _ v hX).trans hS
        have hS24 : ∀ u v, ((w1.setCell ⟨g, 2, none⟩ u).setCell ⟨g, 3, none⟩ v).cell? (A.add z.toNat) = some (.int .i64 (rd l0 z)) := fun u v => (cell_far _ _ v hX).trans (hS22 u)
        have hS26 : ∀ u v x, (((w1.setCell ⟨g, 2, none⟩ u).setCell ⟨g, 3, none⟩ v).setCell ⟨g, 4, none⟩ x).cell? (A.add z.toNat) = some (.int .i64 (rd l0 z)) := fun u v x => (cell_far _ _ x hX).trans (hS24 u v)
        refine pk (i := 0) (N := some 19) (v := ?_) (a' := ?_) #[true,false,false,false,false,false,false,false,false,false,false,false,false,false,false,false,false,false,false,false,false,false,false,false,false,false,false] ?_ ?_ ?_
        rotate_left
        · (intro w'; go_simp; with_reducible rfl)
        rotate_left
        · (simp only [Act.put, List.setIfInBounds_toArray, List.set_cons_zero, List.set_cons_succ, i64_w, i32_w]; rfl)
        refine pk (i := 2) (N := some 21) (v := ?_) (a' := ?_) #[true,false,true,false,false,false,false,false,false,false,false,false,false,false,false,false,false,false,false,false,false,false,false,false,false,false,false] ?_ ?_ ?_
        rotate_left
        · (intro w'; go_simp; with_reducible rfl)
        rotate_left
        · (simp only [Act.put, List.setIfInBounds_toArray, List.set_cons_zero, List.set_cons_succ, i64_w, i32_w]; rfl)
        refine pk (i := 3) (N := some 22) (v := ?_) (a' := ?_) #[true,false,true,true,false,false,false,false,false,false,false,false,false,false,false,false,false,false,false,false,false,false,false,false,false,false,false] ?_ ?_ ?_
        rotate_left
        · (intro w'; go_simp; with_reducible rfl)
        rotate_left
        · (simp only [Act.put, List.setIfInBounds_toArray, List.set_cons_zero, List.set_cons_succ, i64_w, i32_w]; rfl)
        refine pk (i := 4) (N := some 23) (v := ?_) (a' := ?_) #[true,false,true,true,true,false,false,false,false,false,false,false,false,false,false,false,false,false,false,false,false,false,false,false,false,false,false] ?_ ?_ ?_
        rotate_left
        · (intro w'; go_simp; with_reducible rfl)
        rotate_left
        · (simp only [Act.put, List.setIfInBounds_toArray, List.set_cons_zero, List.set_cons_succ, i64_w, i32_w]; rfl)
        refine pk (i := 7) (N := some 26) (v := ?_) (a' := ?_) #[true,false,true,true,true,false,false,true,false,false,false,false,false,false,false,false,false,false,false,false,false,false,false,false,false,false,false] ?_ ?_ ?_
        rotate_left
        · (intro w'; go_simp; with_reducible rfl)
        rotate_left
        · (simp only [Act.put, List.setIfInBounds_toArray, List.set_cons_zero, List.set_cons_succ, i64_w, i32_w]; rfl)
        refine pk (i := 9) (N := some 28) (v := ?_) (a' := ?_) #[true,false,true,true,true,false,false,true,false,true,false,false,false,false,false,false,false,false,false,false,false,false,false,false,false,false,false] ?_ ?_ ?_
        rotate_left
        · (intro w'; go_simp; with_reducible rfl)
        rotate_left
        · (simp only [Act.put, List.setIfInBounds_toArray, List.set_cons_zero, List.set_cons_succ, i64_w, i32_w]; rfl)
        refine pk (i := 10) (N := some 29) (v := ?_) (a' := ?_) #[true,false,true,true,true,false,false,true,false,true,true,false,false,false,false,false,false,false,false,false,false,false,false,false,false,false,false] ?_ ?_ ?_
        rotate_left
        · (intro w'; go_simp; with_reducible rfl)
        rotate_left
        · (simp only [Act.put, List.setIfInBounds_toArray, List.set_cons_zero, List.set_cons_succ, i64_w, i32_w]; rfl)
        refine pk (i := 11) (N := some 30) (v := ?_) (a' := ?_) #[true,false,true,true,true,false,false,true,false,true,true,true,false,false,false,false,false,false,false,false,false,false,false,false,false,false,false] ?_ ?_ ?_
        rotate_left
        · (intro w'; go_simp; with_reducible rfl)
        rotate_left
        · (simp only [Act.put, List.setIfInBounds_toArray, List.set_cons_zero, List.set_cons_succ, i64_w, i32_w]; rfl)
        refine pk (i := 14) (N := some 33) (v := ?_) (a' := ?_) #[true,false,true,true,true,false,false,true,false,true,true,true,false,false,true,false,false,false,false,false,false,false,false,false,false,false,false] ?_ ?_ ?_
        rotate_left
        · (intro w'; go_simp; with_reducible rfl)
        rotate_left
        · (simp only [Act.put, List.setIfInBounds_toArray, List.set_cons_zero, List.set_cons_succ, i64_w, i32_w]; rfl)
        refine pk (i := 16) (N := some 35) (v := ?_) (a' := ?_) #[true,false,true,true,true,false,false,true,false,true,true,true,false,false,true,false,true,false,false,false,false,false,false,false,false,false,false] ?_ ?_ ?_
        rotate_left
        · (intro w'; go_simp; with_reducible rfl)
        rotate_left
        · (simp only [Act.put, List.setIfInBounds_toArray, List.set_cons_zero, List.set_cons_succ, i64_w, i32_w]; rfl)
        refine pk (i := 17) (N := some 36) (v := ?_) (a' := ?_) #[true,false,true,true,true,false,false,true,false,true,true,true,false,false,true,false,true,true,false,false,false,false,false,false,false,false,false] ?_ ?_ ?_
        rotate_left
        · (intro w'; go_simp; with_reducible rfl)
        rotate_left
        · (simp only [Act.put, List.setIfInBounds_toArray, List.set_cons_zero, List.set_cons_succ, i64_w, i32_w]; rfl)
        refine pk (i := 18) (N := some 37) (v := ?_) (a' := ?_) #[true,false,true,true,true,false,false,true,false,true,true,true,false,false,true,false,true,true,true,false,false,false,false,false,false,false,false] ?_ ?_ ?_
        rotate_left
        · (intro w'; go_simp; with_reducible rfl)
        rotate_left
        · (simp only [Act.put, List.setIfInBounds_toArray, List.set_cons_zero, List.set_cons_succ, i64_w, i32_w]; rfl)
        refine lk (i := 5) (N := some 24) (v := ?_) (a' := ?_) #[true,false,true,true,true,true,false,true,false,true,true,true,false,false,true,false,true,true,true,false,false,false,false,false,false,false,false] ?_ hS ?_ ?_
        rotate_left
        · (intro w' s0_; (try dsimp only at s0_); go_simp; with_reducible rfl)
        rotate_left
        · (simp only [Act.put, List.setIfInBounds_toArray, List.set_cons_zero, List.set_cons_succ, i64_w, i32_w]; rfl)
        refine lk (i := 12) (N := some 31) (v := ?_) (a' := ?_) #[true,false,true,true,true,true,false,true,false,true,true,true,true,false,true,false,true,true,true,false,false,false,false,false,false,false,false] ?_ hS ?_ ?_
        rotate_left
        · (intro w' s0_; (try dsimp only at s0_); go_simp; with_reducible rfl)
        rotate_left
        · (simp only [Act.put, List.setIfInBounds_toArray, List.set_cons_zero, List.set_cons_succ, i64_w, i32_w]; rfl)
        refine lk (i := 19) (N := some 38) (v := ?_) (a' := ?_) #[true,false,true,true,true,true,false,true,false,true,true,true,true,false,true,false,true,true,true,true,false,false,false,false,false,false,false] ?_ hS ?_ ?_
        rotate_left
        · (intro w' s0_; (try dsimp only at s0_); go_simp; with_reducible rfl)
        rotate_left
        · (simp only [Act.put, List.setIfInBounds_toArray, List.set_cons_zero, List.set_cons_succ, i64_w, i32_w]; rfl)
        refine thp (i := 1) (j := 8) (k := 15) (ri := 6) (rj := 13) (rk := 20) (Ni := some 20) (Nj := some 27) (Nk := some 34) (Mi := some 25) (Mj := some 32) (Mk := some 39) (vi := .int .i64 a) (vj := .int .i64 b) (vk := .int .i64 s) (ui := .int .i64 (mn a (rd l0 z))) (uj := .int .i64 (mx b (rd l0 z))) (uk := .int .i64 (IntKind.i64.wrap (s + rd l0 z))) (a' := ?_) #[true,true,true,true,true,true,false,true,false,true,true,true,true,false,true,false,true,true,true,true,false,false,false,false,false,false,false] #[true,false,true,true,true,true,false,true,true,true,true,true,true,false,true,false,true,true,true,true,false,false,false,false,false,false,false] #[true,false,true,true,true,true,false,true,false,true,true,true,true,false,true,true,true,true,true,true,false,false,false,false,false,false,false] #[true,true,true,true,true,true,true,true,false,true,true,true,true,false,true,false,true,true,true,true,false,false,false,false,false,false,false] #[true,false,true,true,true,true,false,true,true,true,true,true,true,true,true,false,true,true,true,true,false,false,false,false,false,false,false] #[true,false,true,true,true,true,false,true,false,true,true,true,true,false,true,true,true,true,true,true,true,false,false,false,false,false,false] #[true,true,true,true,true,true,true,true,true,true,true,true,true,false,true,false,true,true,true,true,false,false,false,false,false,false,false] #[true,true,true,true,true,true,true,true,false,true,true,true,true,false,true,true,true,true,true,true,false,false,false,false,false,false,false] #[true,true,true,true,true,true,false,true,true,true,true,true,true,true,true,false,true,true,true,true,false,false,false,false,false,false,false] #[true,false,true,true,true,true,false,true,true,true,true,true,true,true,true,true,true,true,true,true,false,false,false,false,false,false,false] #[true,true,true,true,true,true,false,true,false,true,true,true,true,false,true,true,true,true,true,true,true,false,false,false,false,false,false] #[true,false,true,true,true,true,false,true,true,true,true,true,true,false,true,true,true,true,true,true,true,false,false,false,false,false,false] #[true,true,true,true,true,true,true,true,true,true,true,true,true,true,true,false,true,true,true,true,false,false,false,false,false,false,false] #[true,true,true,true,true,true,true,true,false,true,true,true,true,false,true,true,true,true,true,true,true,false,false,false,false,false,false] #[true,false,true,true,true,true,false,true,true,true,true,true,true,true,true,true,true,true,true,true,true,false,false,false,false,false,false] #[true,true,true,true,true,true,true,true,true,true,true,true,true,true,true,true,true,true,true,true,false,false,false,false,false,false,false] #[true,true,true,true,true,true,true,true,true,true,true,true,true,false,true,true,true,true,true,true,true,false,false,false,false,false,false] #[true,true,true,true,true,true,false,true,true,true,true,true,true,true,true,true,true,true,true,true,true,false,false,false,false,false,false] #[true,true,true,true,true,true,true,true,true,true,true,true,true,true,true,true,true,true,true,true,true,false,false,false,false,false,false] ?_ ?_ ?_ ?_ ?_ ?_ hS ?_
        · (first | (go_simp; done) | (go_simp; rfl))
        · (first | (go_simp; done) | (go_simp; rfl))
        · (first | (go_simp; done) | (go_simp; rfl))
        · (intro W; first | (go_simp; done) | (go_simp; rfl))
        · (intro W; first | (go_simp; done) | (go_simp; rfl))
        · (intro W; first | (go_simp; done) | (go_simp; rfl))
        refine norm_ (a' := ?_) ?_ ?_
        rotate_left
        · (simp only [Act.put, List.setIfInBounds_toArray, List.set_cons_zero, List.set_cons_succ, i64_w, i32_w]; rfl)
        refine pk (i := 21) (N := some 40) (v := ?_) (a' := ?_) #[true,true,true,true,true,true,true,true,true,true,true,true,true,true,true,true,true,true,true,true,true,true,false,false,false,false,false] ?_ ?_ ?_
        rotate_left
        · (intro w'; go_simp; with_reducible rfl)
        rotate_left
        · (simp only [Act.put, List.setIfInBounds_toArray, List.set_cons_zero, List.set_cons_succ, i64_w, i32_w]; rfl)
        refine sk (i := 22) (w1 := ?_) #[true,true,true,true,true,true,true,true,true,true,true,true,true,true,true,true,true,true,true,true,true,true,true,false,false,false,false] ?_ ?_ ?_
        rotate_left
        · (first | (go_simp; done) | (go_simp; rfl))
        · exact hS22 _
        refine pk (i := 23) (N := some 41) (v := ?_) (a' := ?_) #[true,true,true,true,true,true,true,true,true,true,true,true,true,true,true,true,true,true,true,true,true,true,true,true,false,false,false] ?_ ?_ ?_
        rotate_left
        · (intro w'; go_simp; with_reducible rfl)
        rotate_left
        · (simp only [Act.put, List.setIfInBounds_toArray, List.set_cons_zero, List.set_cons_succ, i64_w, i32_w]; rfl)
        refine sk (i := 24) (w1 := ?_) #[true,true,true,true,true,true,true,true,true,true,true,true,true,true,true,true,true,true,true,true,true,true,true,true,true,false,false] ?_ ?_ ?_
        rotate_left
        · (first | (go_simp; done) | (go_simp; rfl))
        · exact hS24 _ _
        refine pk (i := 25) (N := some 42) (v := ?_) (a' := ?_) #[true,true,true,true,true,true,true,true,true,true,true,true,true,true,true,true,true,true,true,true,true,true,true,true,true,true,false] ?_ ?_ ?_
        rotate_left
        · (intro w'; go_simp; with_reducible rfl)
        rotate_left
        · (simp only [Act.put, List.setIfInBounds_toArray, List.set_cons_zero, List.set_cons_succ, i64_w, i32_w]; rfl)
        refine sk (i := 26) (w1 := ?_) #[true,true,true,true,true,true,true,true,true,true,true,true,true,true,true,true,true,true,true,true,true,true,true,true,true,true,true] ?_ ?_ ?_
        rotate_left
        · (first | (go_simp; done) | (go_simp; rfl))
        · exact hS26 _ _ _
        refine done_ (by kernel_rfl) ?_
        have hgo := HG.out
        rw [show l0.drop i = rd l0 z :: l0.drop (i + 1) by rw [List.drop_eq_getElem_cons (by omega)]; congr 1; unfold rd; rw [show z.toNat = i by rw [hz.out]; simp, List.getD_eq_getElem?_getD, List.getElem?_eq_getElem (by omega), Option.getD_some]] at hgo
        simp only [go] at hgo
        generalize em : mn a (rd l0 z) = m1 at hgo
        generalize eM : mx b (rd l0 z) = m2 at hgo
        try rw [em, eM]
        clear em eM
        have hn : wrap64 (z + 1) = ((i + 1 : Nat) : Int) := by
          have := hz.out
          rw [this]
          unfold wrap64
          omega
        have HN := Aside0.mk hn
        have HG2 := Aside0.mk hgo
        clear hgo hn HG hz hS hS22 hS24 hS26 hX q0 q1 q2 q3 q4 f0 f1 f2 f3 f4
        go_wp2_with fail
        go_roundg gk
        case measure => omega
        case rel =>
          refine ⟨i + 1, wrap64 (z + 1), m1, m2, wrap64 (s + rd l0 z), by first | rfl | simp, HN, by omega, HG2, ⟨?_⟩, ⟨?_⟩, ⟨?_⟩⟩
          · exact blk_set (blk_set (blk_set HQ.out 2 _) 3 _) 4 _
          · exact blk_far_ HZ.out hne
          · exact ((HB.out.setCell (p := ⟨g, 2, none⟩) hge _).setCell (p := ⟨g, 3, none⟩) hge _).setCell (p := ⟨g, 4, none⟩) hge _
end Go.Proofs.Ytdnhfofmfpgmmaa.XMea
