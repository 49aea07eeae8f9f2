/- This file proves what the alignment of package edit is. -/
import Derived.Test.YtmmmapkobnepcaaXWords
import Derived.Test.YtmmmapkobnepcaaProg
import Derived.Test.YtmmmapkobnepcaaXDist
import Derived.Deep.WholeRow
import Derived.Deep.LoopGhost
import Derived.Deep.QuietTactic
import Derived.BigQuiet
import Derived.RegionTactic
import Derived.Laws.Tables
import Derived.Laws.ResultCell
import Derived.WalkKit
import Derived.RowKit3
import Derived.Outline
import Derived.OpenShut
set_option linter.unusedVariables false
set_option linter.unusedSimpArgs false
namespace Go.Proofs.Ytmmmapkobnepcaa.X
open Go.RowKit Go.Proofs.YtmmmapkobnepcaaW.PrintWords Go.Proofs.YtmmmapkobnepcaaW.PrintLast Go.Proofs.YtmmmapkobnepcaaW.PrintMore Go.Proofs.Ytmmmapkobnepcaa.MathEd
attribute [local go_sem] max2_int min2_int max_two min_two max_three min_three max_four min_four

/-- The steps of the best alignment, the last one first. -/
def trace (g : Int) (x y : List Int) : Nat → Nat → Nat → List Int
  | 0, _, _ => []
  | _ + 1, 0, 0 => []
  | n + 1, i + 1, 0 => 2 :: trace g x y n i 0
  | n + 1, 0, j + 1 => 3 :: trace g x y n 0 j
  | n + 1, i + 1, j + 1 => if dd g x y i j + ab (rd x (i : Int)) (rd y (j : Int)) = dd g x y (i + 1) (j + 1) then 1 :: trace g x y n i j
    else if dd g x y i (j + 1) + ab (rd x (i : Int)) g = dd g x y (i + 1) (j + 1) then 2 :: trace g x y n i (j + 1) else 3 :: trace g x y n (i + 1) j
theorem rd_at (x : List Int) (i : Nat) (h : i < x.length) : rd x (i : Int) = x[i] := by
  unfold rd
  rw [Int.toNat_natCast, List.getD_eq_getElem?_getD, List.getElem?_eq_getElem h]
  rfl
theorem no_zero {s : Nat} (hs : s < 3) : NoCand s 0 0 := by unfold NoCand; omega
theorem trace_al {g : Int} {x y : List Int} : ∀ (n i j : Nat), i + j ≤ n → i ≤ x.length → j ≤ y.length → Al g (x.take i).reverse (y.take j).reverse (trace g x y n i j) (dd g x y i j)
  | 0, i, j, h, _, _ => by
    obtain rfl : i = 0 := by omega
    obtain rfl : j = 0 := by omega
    rw [trace, dd_zero, List.take_zero, List.take_zero]
    exact .nil
  | n + 1, 0, 0, _, _, _ => by
    rw [trace, dd_zero, List.take_zero, List.take_zero]
    exact .nil
  | n + 1, i + 1, 0, h, hi, hj => by
    rw [trace, dd_left hi, take_rev hi]
    exact .left _ (trace_al n i 0 (by omega) (by omega) hj)
  | n + 1, 0, j + 1, h, hi, hj => by
    rw [trace, dd_right hj, take_rev hj]
    exact .right _ (trace_al n 0 j (by omega) hi (by omega))
  | n + 1, i + 1, j + 1, h, hi, hj => by
    rw [trace, rd_at x i hi, rd_at y j hj, take_rev hi, take_rev hj]
    have hm := dd_both (g := g) hi hj
    split
    · rename_i h1
      rw [← h1, Int.add_comm]
      exact .both _ _ (trace_al n i j (by omega) (by omega) (by omega))
    · rename_i h1
      split
      · rename_i h2
        rw [← h2, Int.add_comm, ← take_rev hj]
        exact .left _ (trace_al n i (j + 1) (by omega) (by omega) hj)
      · rename_i h2
        have h3 : dd g x y (i + 1) (j + 1) = ab y[j] g + dd g x y (i + 1) j := by omega
        rw [h3, ← take_rev hi]
        exact .right _ (trace_al n (i + 1) j (by omega) hi (by omega))
theorem trace_len {g : Int} {x y : List Int} : ∀ (n i j : Nat), (trace g x y n i j).length ≤ n
  | 0, i, j => by rw [trace]; exact Nat.le_refl _
  | n + 1, 0, 0 => by rw [trace]; simp
  | n + 1, i + 1, 0 => by rw [trace]; have := trace_len (g := g) (x := x) (y := y) n i 0; simpa using this
  | n + 1, 0, j + 1 => by rw [trace]; have := trace_len (g := g) (x := x) (y := y) n 0 j; simpa using this
  | n + 1, i + 1, j + 1 => by
    rw [trace]
    have h1 := trace_len (g := g) (x := x) (y := y) n i j
    have h2 := trace_len (g := g) (x := x) (y := y) n i (j + 1)
    have h3 := trace_len (g := g) (x := x) (y := y) n (i + 1) j
    split
    · simpa using h1
    · split
      · simpa using h2
      · simpa using h3
/-- None of the first s steps leads to the least cost. -/
def NoneYet (g : Int) (x y : List Int) (i j s : Nat) : Prop := ∀ s', s' < s → ∀ a b c, Cand g x y s' i j a b c → dd g x y a b + c ≠ dd g x y i j
theorem trace_step {g : Int} {x y : List Int} {n s i j a b : Nat} {c : Int} (hi : i ≤ x.length) (hj : j ≤ y.length) (hs : s < 3) (hn : NoneYet g x y i j s) (hc : Cand g x y s i j a b c) (he : dd g x y a b + c = dd g x y i j) : trace g x y (n + 1) i j = ((s + 1 : Nat) : Int) :: trace g x y n a b := by
  cases i with
  | zero =>
    cases j with
    | zero => exact (cand_no hc (no_zero hs)).elim
    | succ j =>
      rcases hc with ⟨-, h, -⟩ | ⟨-, h, -⟩ | ⟨rfl, rfl, h, -⟩
      · cases h
      · cases h
      · obtain rfl := Nat.succ.inj h
        rw [trace]
        rfl
  | succ i =>
    cases j with
    | zero =>
      rcases hc with ⟨-, -, h, -⟩ | ⟨rfl, h, rfl, -⟩ | ⟨-, -, h, -⟩
      · cases h
      · obtain rfl := Nat.succ.inj h
        rw [trace]
        rfl
      · cases h
    | succ j =>
      rw [trace]
      rcases hc with ⟨rfl, h1, h2, h, k, rfl⟩ | ⟨rfl, h1, rfl, h, rfl⟩ | ⟨rfl, rfl, h2, k, rfl⟩
      · obtain rfl := Nat.succ.inj h1
        obtain rfl := Nat.succ.inj h2
        rw [rd_at x _ h, rd_at y _ k, if_pos he]
        rfl
      · obtain rfl := Nat.succ.inj h1
        have h0 := hn 0 (by omega) _ _ _ (.inl ⟨rfl, rfl, rfl, h, hj, rfl⟩)
        rw [rd_at x _ h, rd_at y _ hj, if_neg h0, if_pos he]
        rfl
      · obtain rfl := Nat.succ.inj h2
        have h0 := hn 0 (by omega) _ _ _ (.inl ⟨rfl, rfl, rfl, hi, k, rfl⟩)
        have h1 := hn 1 (by omega) _ _ _ (.inr (.inl ⟨rfl, rfl, rfl, hi, rfl⟩))
        rw [rd_at x _ hi, rd_at y _ k, if_neg h0, if_neg h1]
        rfl
theorem some_step {g : Int} {x y : List Int} {i j : Nat} (hi : i ≤ x.length) (hj : j ≤ y.length) (hp : 0 < i + j) (hn : NoneYet g x y i j 3) : False := by
  cases i with
  | zero =>
    cases j with
    | zero => omega
    | succ j =>
      have h2 := hn 2 (by omega) _ _ _ (.inr (.inr ⟨rfl, rfl, rfl, hj, rfl⟩))
      have := dd_right (g := g) (x := x) hj
      omega
  | succ i =>
    cases j with
    | zero =>
      have h1 := hn 1 (by omega) _ _ _ (.inr (.inl ⟨rfl, rfl, rfl, hi, rfl⟩))
      have := dd_left (g := g) (y := y) hi
      omega
    | succ j =>
      have h0 := hn 0 (by omega) _ _ _ (.inl ⟨rfl, rfl, rfl, hi, hj, rfl⟩)
      have h1 := hn 1 (by omega) _ _ _ (.inr (.inl ⟨rfl, rfl, rfl, hi, rfl⟩))
      have h2 := hn 2 (by omega) _ _ _ (.inr (.inr ⟨rfl, rfl, rfl, hj, rfl⟩))
      have := dd_both (g := g) hi hj
      omega
theorem none_zero (g : Int) (x y : List Int) (i j : Nat) : NoneYet g x y i j 0 := fun s' h => absurd h (Nat.not_lt_zero _)
theorem cand_one {g : Int} {x y : List Int} {s i j a b a' b' : Nat} {c c' : Int} (h : Cand g x y s i j a b c) (h' : Cand g x y s i j a' b' c') : a' = a ∧ b' = b ∧ c' = c := by
  rcases h with ⟨rfl, rfl, rfl, h, k, rfl⟩ | ⟨rfl, rfl, rfl, h, rfl⟩ | ⟨rfl, rfl, rfl, k, rfl⟩
  · exact cand0 h k h'
  · exact cand1 h h'
  · exact cand2 k h'
theorem none_next {g : Int} {x y : List Int} {s i j a b : Nat} {c : Int} (hn : NoneYet g x y i j s) (hc : Cand g x y s i j a b c) (he : dd g x y a b + c ≠ dd g x y i j) : NoneYet g x y i j (s + 1) := by
  intro s' hs' a' b' c' hc'
  rcases Nat.lt_or_ge s' s with h | h
  · exact hn s' h a' b' c' hc'
  · obtain rfl : s' = s := by omega
    obtain ⟨rfl, rfl, rfl⟩ := cand_one hc hc'
    exact he
theorem none_next' {g : Int} {x y : List Int} {s i j : Nat} (hn : NoneYet g x y i j s) (hc : NoCand s i j) : NoneYet g x y i j (s + 1) := by
  intro s' hs' a' b' c' hc'
  rcases Nat.lt_or_ge s' s with h | h
  · exact hn s' h a' b' c' hc'
  · obtain rfl : s' = s := by omega
    exact (cand_no hc' hc).elim
/-- The table when it is whole. -/
theorem cell_whole (g : Int) (x y : List Int) {i j : Nat} (hi : i ≤ x.length) (hj : j ≤ y.length) (hy : y.length ≤ 32) : cellF g x y (x.length + 1) 0 0 (i * 33 + j) = dd g x y i j :=
  cellF_at g x y 0 (by omega) hj (.inl (by omega)) (by omega)
theorem align_info3 : (Try.prog.info? 3).map (fun i => (i.zero, i.size, i.bytes)) = some (some (.int .i64 0), 1, 8) := by kernel_rfl
set_option maxHeartbeats 1600000 in
theorem align_no (A0 : Option Addr) (c0 : Nat) (x : List Int) (A1 : Option Addr) (c1 : Nat) (y : List Int) (g r : Int) (w : World) (hr : r ≠ 0)
    (hchk : Calls Try.prog 28 #[.slice A0 x.length c0, .slice A1 y.length c1, .int .i64 g] w fun e w' => e = .returned (.int .i64 r) ∧ Below w.heap.size w w') :
    Calls Try.prog 18 #[.slice A0 x.length c0, .slice A1 y.length c1, .int .i64 g] w fun e w' => ∃ v0_ : Value, e = .returned (.tuple #[v0_, .int .i64 r]) ∧ Kd.R (Kd.int .i64) 3 w' w.heap.size (fun _ => True) v0_ [] ∧ Below w.heap.size w w' := by
  have hb : (r != 0) = true := bne_iff_ne.2 hr
  clear hr
  go_enter Try.func18, Try.ntmps18
  go_wp2_with (go_at_call 28; refine hchk.mono ?_; rintro e w1 ⟨rfl, hb1⟩)
  go_ret2
  exact ⟨_, rfl, Kd.R_nil _ _ _ _ _, hb1⟩
theorem below_of_drawn {w W W' : World} (h : Below w.heap.size w W) (hd : Drawn0 W W') : Below w.heap.size w W' := by
  obtain ⟨n, rfl⟩ := hd
  exact pw_below_drewN h n
set_option maxHeartbeats 400000 in
set_option maxRecDepth 1000000 in
theorem align_yes (A0 : Option Addr) (c0 : Nat) (x : List Int) (A1 : Option Addr) (c1 : Nat) (y : List Int) (g : Int) (r : List Int) (w : World) (hx : Kd.C (Kd.int .i64) w A0 x.length x) (hy : Kd.C (Kd.int .i64) w A1 y.length y) (ok : Ok x y g)
    (hchk : Calls Try.prog 28 #[.slice A0 x.length c0, .slice A1 y.length c1, .int .i64 g] w fun e w' => e = .returned (.int .i64 0) ∧ Below w.heap.size w w')
    (hrev : ∀ (u : Value) (w1 : World), Below w.heap.size w w1 → Kd.R (Kd.int .i64) 3 w1 w.heap.size (fun _ => True) u (trace g x y (x.length + y.length) x.length y.length) → Calls Try.prog 33 #[u] w1 fun e w' => e = .returned (.tuple #[]) ∧ Kd.R (Kd.int .i64) 3 w' w.heap.size (fun _ => True) u r ∧ Below w.heap.size w w') :
    Calls Try.prog 18 #[.slice A0 x.length c0, .slice A1 y.length c1, .int .i64 g] w fun e w' => ∃ v0_ : Value, e = .returned (.tuple #[v0_, .int .i64 0]) ∧ Kd.R (Kd.int .i64) 3 w' w.heap.size (fun _ => True) v0_ r ∧ Below w.heap.size w w' := by
  obtain ⟨bx, by_, hg, hx32, hy32⟩ := ok
  obtain ⟨hz, hsz⟩ := zero_of_info tabF_info
  have HX := Aside0.mk hx
  have HY := Aside0.mk hy
  have BX := Aside0.mk bx
  have BY := Aside0.mk by_
  have BG := Aside0.mk hg
  have HCH := Aside0.mk hchk
  have HREV := Aside0.mk hrev
  clear hx hy bx by_ hg hchk hrev
  go_enter Try.func18, Try.ntmps18
  go_upto_region 5 with (first | (go_at_call 28; refine HCH.out.mono ?_; rintro e w1 ⟨rfl, hb1⟩) | (go_at_call 29; refine (etable_calls _ _ x _ _ y g _ (Kd.C_below HX.out hb1) (Kd.C_below HY.out hb1) BX.out BY.out BG.out hx32 hy32).mono ?_; rintro e w2 ⟨rfl, hb2⟩) | (refine wpList_store_row rfl 55 _ _ rfl w2.heap.size (tabF (cellF g x y (x.length + 1) 0 0)) rfl rfl 55 (tabF fun _ => 0) (heap_alloc_new w2 _) (by rw [tabF_size]; exact hsz) (by rw [tabF_size, tabF_size]) (tabF_one _) ?_; rw [World.setRow_alloc_new]))
  have hb3 := hb1.trans (hb2.mono hb1.size)
  have HG := Aside0.mk (heap_alloc_new w2 (.cells (tabF (cellF g x y (x.length + 1) 0 0)) 55))
  have HW := Aside0.mk (hb3.alloc hb3.size (.cells (tabF (cellF g x y (x.length + 1) 0 0)) 55))
  generalize hW : w2.alloc (Obj.cells (tabF (cellF g x y (x.length + 1) 0 0)) 55) = W at *
  generalize hG : w2.heap.size = G at *
  clear hW hG hb1 hb2 hb3 HCH
  go_wp2_with fail
  go_loopg [10, 11, 12] (x.length + y.length) (fun gk s10 s11 s12 wx => ∃ (i j : Nat) (out : List Int), i + j ≤ gk ∧ i ≤ x.length ∧ j ≤ y.length ∧ s10 = .int .i64 i ∧ s11 = .int .i64 j ∧ Aside0 (out ++ trace g x y gk i j = trace g x y (x.length + y.length) x.length y.length) ∧ Aside0 (out.length + gk ≤ 64) ∧ Aside0 (Kd.R (Kd.int .i64) 3 wx w.heap.size (fun _ => True) s12 out) ∧ Aside0 (wx.heap[G]? = some (.cells (tabF (cellF g x y (x.length + 1) 0 0)) 55 (0, 0))) ∧ Aside0 (Below w.heap.size w wx))
  case atStart => exact ⟨x.length, y.length, [], Nat.le_refl _, Nat.le_refl _, Nat.le_refl _, rfl, rfl, ⟨rfl⟩, ⟨by simp; omega⟩, ⟨Kd.R_nil _ _ _ _ _⟩, HG, HW⟩
  case round =>
    obtain ⟨i, j, out, hij, hi, hj, rfl, rfl, HT, HL, HO, HX1, HXW⟩ := hrel
    clear HG HW
    by_cases hz0 : i = 0 ∧ j = 0
    · obtain ⟨rfl, rfl⟩ := hz0
      have hout : out = trace g x y (x.length + y.length) x.length y.length := by
        rw [← HT.out]
        cases gk with
        | zero => rw [trace, List.append_nil]
        | succ n => rw [trace, List.append_nil]
      have HOUT := Aside0.mk hout
      clear hout
      go_wp2_with (go_at_call 33; refine (HREV.out _ _ HXW.out (by rw [← HOUT.out]; exact HO.out)).mono ?_; rintro e w3 ⟨rfl, hr3, hb3⟩)
      go_ret2
      exact ⟨_, rfl, hr3, hb3⟩
    · cases gk with
      | zero => omega
      | succ n =>
        have hp : 0 < i + j := by omega
        obtain ⟨wo, rfl⟩ : ∃ wo : World, wo = wr := ⟨_, rfl⟩
        obtain ⟨vout, rfl⟩ : ∃ vout : Value, vout = u12 := ⟨_, rfl⟩
        by_cases hi0 : 0 < i
        · skip
          go_wp2_with fail
          go_loopg [10, 11, 12, 13] 3 (fun gk s10 s11 s12 s13 wx => ∃ t : Nat, t + gk = 4 ∧ 1 ≤ t ∧ s10 = .int .i64 i ∧ s11 = .int .i64 j ∧ s12 = vout ∧ s13 = .int .i64 t ∧ Aside0 (NoneYet g x y i j (t - 1)) ∧ Drawn0 wo wx)
          case atStart => exact ⟨1, by omega, by omega, rfl, rfl, rfl, rfl, ⟨none_zero g x y i j⟩, ⟨0, rfl⟩⟩
          case round =>
            obtain ⟨t, htg, ht1, rfl, rfl, rfl, rfl, HN, hdr⟩ := hrel
            obtain ⟨m0, rfl⟩ := hdr
            have hdr : Drawn0 wo (wo.drewN m0) := ⟨m0, rfl⟩
            cases gk with
            | zero =>
              obtain rfl : t = 4 := by omega
              exact (some_step hi hj hp HN.out).elim
            | succ gs =>
              have ht : t = t - 1 + 1 := by omega
              have ht3 : (t : Int) ≤ 3 := by omega
              have HTT := Aside0.mk ht
              clear ht
              rcases cand_or g x y (s := t - 1) (by omega) hi hj with ⟨a, b, c, hc⟩ | hno
              · obtain ⟨hc0, hc1, hlex, hai, hbj⟩ := cand_bound BX.out BY.out BG.out hc
                have hp0 := dd_nn g x y a b
                have hp1 := dd_bound BG.out BX.out BY.out (by omega) hx32 hy32 a b
                have hcell : wo.cell? ⟨G, a * 33 + b, none⟩ = some (.int .i64 (dd g x y a b)) := (cell_of_row wo _ _ _ _ _ HX1.out).trans (by rw [tabF_get _ _ (by omega), cell_whole g x y (by omega) (by omega) hy32])
                have hcel' : wo.cell? ⟨G, i * 33 + j, none⟩ = some (.int .i64 (dd g x y i j)) := (cell_of_row wo _ _ _ _ _ HX1.out).trans (by rw [tabF_get _ _ (by omega), cell_whole g x y hi hj hy32])
                have hab : a + b < i + j := by omega
                have HC := Aside0.mk hc
                have ha33 : (a : Int) < 33 := by omega
                have hb33 : (b : Int) < 33 := by omega
                have hi33 : (i : Int) < 33 := by omega
                have hj33 : (j : Int) < 33 := by omega
                obtain ⟨p, hpe⟩ : ∃ p, p = dd g x y a b := ⟨_, rfl⟩
                obtain ⟨q, hqe⟩ : ∃ q, q = dd g x y i j := ⟨_, rfl⟩
                rw [← hpe] at hp0 hp1 hcell
                rw [← hqe] at hcel'
                have HP := Aside0.mk hpe
                have HQ := Aside0.mk hqe
                clear hc hlex hpe hqe
                by_cases he : p + c = q
                · have he' : ((p + c : Int) == q) = true := beq_iff_eq.2 he
                  have HE := Aside0.mk he
                  clear he
                  go_wp2_with (go_at_call 32; refine (last_yes' _ _ x _ _ y g (t - 1) t i j a b c _ HTT.out (Kd.C_below HX.out (below_of_drawn HXW.out hdr)) (Kd.C_below HY.out (below_of_drawn HXW.out hdr)) BX.out BY.out BG.out hx32 hy32 HC.out).mono ?_; rintro e w' ⟨rfl, ⟨m, rfl⟩⟩)
                  go_quiet (fail)
                  go_wp2_with ((with_reducible refine gate_builtin (b := .append) (xs := #[.tmp 71, .tmp 73]) rfl ?_); at_builtin; refine Kd.R_append (w0 := w) (Kd.int .i64) w.heap.size rfl (.tmp 71) (.tmp 73) 22 3 (.int .i64 0) 8 rfl Try.underlying22 align_info3 rfl (by decide) (by omega) u12 out (t : Int) [.int .i64 (t : Int)] (fun _ => True) (fun _ => False) rfl rfl ?aP (fun _ hk => hk.elim) ?aF ?aO ?aB ?aS ?aL ?_; (case aP => exact rfl); (case aF => exact (fun _ _ => trivial)); (case aO => exact (by (with_reducible repeat (first | apply Kd.R_alloc | apply Kd.R_drewN | apply Kd.R_drew)); exact HO.out)); (case aB => repeat (first | exact HXW.out | apply pw_below_drewN | apply below_drew)); (case aS => exact HXW.out.size); (case aL => have := HL.out; omega); intro v1 w4 ho hb hgr hat)
                  go_roundg n
                  case measure => omega
                  case rel =>
                    refine ⟨a, b, out ++ [(t : Int)], by omega, by omega, by omega, rfl, rfl, ⟨?_⟩, ⟨?_⟩, ⟨ho⟩, ⟨?_⟩, ⟨hb⟩⟩
                    · have hs := trace_step (n := n) hi hj (by omega) HN.out HC.out (by rw [← HP.out, ← HQ.out]; exact HE.out)
                      rw [← HTT.out] at hs
                      rw [← HT.out, hs, List.append_assoc]
                      rfl
                    · have := HL.out
                      rw [List.length_append, List.length_singleton]
                      omega
                    · exact (hgr.block G (blk_lt HX1.out) (Kd.R_ne HO.out HX1.out (by decide))).trans HX1.out
                · have he' : ((p + c : Int) == q) = false := beq_eq_false_iff_ne.2 he
                  have HE := Aside0.mk he
                  clear he
                  go_wp2_with (go_at_call 32; refine (last_yes' _ _ x _ _ y g (t - 1) t i j a b c _ HTT.out (Kd.C_below HX.out (below_of_drawn HXW.out hdr)) (Kd.C_below HY.out (below_of_drawn HXW.out hdr)) BX.out BY.out BG.out hx32 hy32 HC.out).mono ?_; rintro e w' ⟨rfl, ⟨m, rfl⟩⟩)
                  go_quiet (fail)
                  go_wp2_with fail
                  go_roundg gs
                  case measure => omega
                  case rel =>
                    refine ⟨t + 1, by omega, by omega, rfl, rfl, rfl, by first | rfl | simp, ⟨?_⟩, ⟨_, rfl⟩⟩
                    show NoneYet g x y i j t
                    rw [HTT.out]
                    exact none_next HN.out HC.out (by rw [← HP.out, ← HQ.out]; exact HE.out)
              · have HNO := Aside0.mk hno
                clear hno
                go_wp2_with (go_at_call 32; refine (last_no' _ _ x _ _ y g (t - 1) t i j _ HTT.out (Kd.C_below HX.out (below_of_drawn HXW.out hdr)) (Kd.C_below HY.out (below_of_drawn HXW.out hdr)) BX.out BY.out BG.out hx32 hy32 hi hj HNO.out).mono ?_; rintro e w' ⟨rfl, ⟨m, rfl⟩⟩)
                go_quiet (fail)
                go_wp2_with fail
                go_roundg gs
                case measure => omega
                case rel =>
                  refine ⟨t + 1, by omega, by omega, rfl, rfl, rfl, by first | rfl | simp, ⟨?_⟩, ⟨_, rfl⟩⟩
                  show NoneYet g x y i j t
                  rw [HTT.out]
                  exact none_next' HN.out HNO.out
        · have hj0 : 0 < j := by omega
          go_wp2_with fail
          go_loopg [10, 11, 12, 13] 3 (fun gk s10 s11 s12 s13 wx => ∃ t : Nat, t + gk = 4 ∧ 1 ≤ t ∧ s10 = .int .i64 i ∧ s11 = .int .i64 j ∧ s12 = vout ∧ s13 = .int .i64 t ∧ Aside0 (NoneYet g x y i j (t - 1)) ∧ Drawn0 wo wx)
          case atStart => exact ⟨1, by omega, by omega, rfl, rfl, rfl, rfl, ⟨none_zero g x y i j⟩, ⟨0, rfl⟩⟩
          case round =>
            obtain ⟨t, htg, ht1, rfl, rfl, rfl, rfl, HN, hdr⟩ := hrel
            obtain ⟨m0, rfl⟩ := hdr
            have hdr : Drawn0 wo (wo.drewN m0) := ⟨m0, rfl⟩
            cases gk with
            | zero =>
              obtain rfl : t = 4 := by omega
              exact (some_step hi hj hp HN.out).elim
            | succ gs =>
              have ht : t = t - 1 + 1 := by omega
              have ht3 : (t : Int) ≤ 3 := by omega
              have HTT := Aside0.mk ht
              clear ht
              rcases cand_or g x y (s := t - 1) (by omega) hi hj with ⟨a, b, c, hc⟩ | hno
              · obtain ⟨hc0, hc1, hlex, hai, hbj⟩ := cand_bound BX.out BY.out BG.out hc
                have hp0 := dd_nn g x y a b
                have hp1 := dd_bound BG.out BX.out BY.out (by omega) hx32 hy32 a b
                have hcell : wo.cell? ⟨G, a * 33 + b, none⟩ = some (.int .i64 (dd g x y a b)) := (cell_of_row wo _ _ _ _ _ HX1.out).trans (by rw [tabF_get _ _ (by omega), cell_whole g x y (by omega) (by omega) hy32])
                have hcel' : wo.cell? ⟨G, i * 33 + j, none⟩ = some (.int .i64 (dd g x y i j)) := (cell_of_row wo _ _ _ _ _ HX1.out).trans (by rw [tabF_get _ _ (by omega), cell_whole g x y hi hj hy32])
                have hab : a + b < i + j := by omega
                have HC := Aside0.mk hc
                have ha33 : (a : Int) < 33 := by omega
                have hb33 : (b : Int) < 33 := by omega
                have hi33 : (i : Int) < 33 := by omega
                have hj33 : (j : Int) < 33 := by omega
                obtain ⟨p, hpe⟩ : ∃ p, p = dd g x y a b := ⟨_, rfl⟩
                obtain ⟨q, hqe⟩ : ∃ q, q = dd g x y i j := ⟨_, rfl⟩
                rw [← hpe] at hp0 hp1 hcell
                rw [← hqe] at hcel'
                have HP := Aside0.mk hpe
                have HQ := Aside0.mk hqe
                clear hc hlex hpe hqe
                by_cases he : p + c = q
                · have he' : ((p + c : Int) == q) = true := beq_iff_eq.2 he
                  have HE := Aside0.mk he
                  clear he
                  go_wp2_with (go_at_call 32; refine (last_yes' _ _ x _ _ y g (t - 1) t i j a b c _ HTT.out (Kd.C_below HX.out (below_of_drawn HXW.out hdr)) (Kd.C_below HY.out (below_of_drawn HXW.out hdr)) BX.out BY.out BG.out hx32 hy32 HC.out).mono ?_; rintro e w' ⟨rfl, ⟨m, rfl⟩⟩)
                  go_quiet (fail)
                  go_wp2_with ((with_reducible refine gate_builtin (b := .append) (xs := #[.tmp 71, .tmp 73]) rfl ?_); at_builtin; refine Kd.R_append (w0 := w) (Kd.int .i64) w.heap.size rfl (.tmp 71) (.tmp 73) 22 3 (.int .i64 0) 8 rfl Try.underlying22 align_info3 rfl (by decide) (by omega) u12 out (t : Int) [.int .i64 (t : Int)] (fun _ => True) (fun _ => False) rfl rfl ?aP (fun _ hk => hk.elim) ?aF ?aO ?aB ?aS ?aL ?_; (case aP => exact rfl); (case aF => exact (fun _ _ => trivial)); (case aO => exact (by (with_reducible repeat (first | apply Kd.R_alloc | apply Kd.R_drewN | apply Kd.R_drew)); exact HO.out)); (case aB => repeat (first | exact HXW.out | apply pw_below_drewN | apply below_drew)); (case aS => exact HXW.out.size); (case aL => have := HL.out; omega); intro v1 w4 ho hb hgr hat)
                  go_roundg n
                  case measure => omega
                  case rel =>
                    refine ⟨a, b, out ++ [(t : Int)], by omega, by omega, by omega, rfl, rfl, ⟨?_⟩, ⟨?_⟩, ⟨ho⟩, ⟨?_⟩, ⟨hb⟩⟩
                    · have hs := trace_step (n := n) hi hj (by omega) HN.out HC.out (by rw [← HP.out, ← HQ.out]; exact HE.out)
                      rw [← HTT.out] at hs
                      rw [← HT.out, hs, List.append_assoc]
                      rfl
                    · have := HL.out
                      rw [List.length_append, List.length_singleton]
                      omega
                    · exact (hgr.block G (blk_lt HX1.out) (Kd.R_ne HO.out HX1.out (by decide))).trans HX1.out
                · have he' : ((p + c : Int) == q) = false := beq_eq_false_iff_ne.2 he
                  have HE := Aside0.mk he
                  clear he
                  go_wp2_with (go_at_call 32; refine (last_yes' _ _ x _ _ y g (t - 1) t i j a b c _ HTT.out (Kd.C_below HX.out (below_of_drawn HXW.out hdr)) (Kd.C_below HY.out (below_of_drawn HXW.out hdr)) BX.out BY.out BG.out hx32 hy32 HC.out).mono ?_; rintro e w' ⟨rfl, ⟨m, rfl⟩⟩)
                  go_quiet (fail)
                  go_wp2_with fail
                  go_roundg gs
                  case measure => omega
                  case rel =>
                    refine ⟨t + 1, by omega, by omega, rfl, rfl, rfl, by first | rfl | simp, ⟨?_⟩, ⟨_, rfl⟩⟩
                    show NoneYet g x y i j t
                    rw [HTT.out]
                    exact none_next HN.out HC.out (by rw [← HP.out, ← HQ.out]; exact HE.out)
              · have HNO := Aside0.mk hno
                clear hno
                go_wp2_with (go_at_call 32; refine (last_no' _ _ x _ _ y g (t - 1) t i j _ HTT.out (Kd.C_below HX.out (below_of_drawn HXW.out hdr)) (Kd.C_below HY.out (below_of_drawn HXW.out hdr)) BX.out BY.out BG.out hx32 hy32 hi hj HNO.out).mono ?_; rintro e w' ⟨rfl, ⟨m, rfl⟩⟩)
                go_quiet (fail)
                go_wp2_with fail
                go_roundg gs
                case measure => omega
                case rel =>
                  refine ⟨t + 1, by omega, by omega, rfl, rfl, rfl, by first | rfl | simp, ⟨?_⟩, ⟨_, rfl⟩⟩
                  show NoneYet g x y i j t
                  rw [HTT.out]
                  exact none_next' HN.out HNO.out
end Go.Proofs.Ytmmmapkobnepcaa.X
