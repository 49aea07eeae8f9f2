/- This file proves, function by function, what the Go functions that one law uses compute; most of it was printed by a program (wip/tools of this session, over the kit's print). -/
import Derived.Test.YtgmiilolikbekaaPPacketBackx0
import Derived.Test.YtgmiilolikbekaaPPacketBackx2
import Derived.Test.YtgmiilolikbekaaPPacketBackx3
namespace Go.Proofs.Ytgmiilolikbekaa.PPacketBack
open Go.RowKit Go.Proofs.YtgmiilolikbekaaW.PrintWords Go.Proofs.YtgmiilolikbekaaW.PrintLast Go.Proofs.YtgmiilolikbekaaW.PrintMore
attribute [local go_sem] max2_int min2_int max_two min_two max_three min_three max_four min_four   -- for this text's walks alone
set_option linter.unusedVariables false
set_option linter.unusedSimpArgs false

/-! ### packet_Decode: function 20 -/
def packet_Decode.l0 : Nat → List Int → Int → Int → Int → Int → Int → List S25 → Option (List S25 × Int)
  | 0, _, _, _, _, _, _, _ => none
  | k + 1, b, n, i, p0, p, q, out => if i < n then ((codec_Int.f k b p0).bind fun t => (if t.2.2 = 0 then ((codec_Int.f k b t.2.1).bind fun u => (if u.2.2 = 0 then ((packet_near.f p t.1).bind fun x => ((packet_near.f q u.1).bind fun y => ((packet_valid.f x y).bind fun v => (if v = true then (if out.length < 8796093022208 then (packet_Decode.l0 k b n (wrap64 (i + 1)) u.2.1 x y (out ++ [(⟨x, y⟩ : S25)])) else none) else (some ([], 1)))))) else (some ([], u.2.2)))) else (some ([], t.2.2)))) else (if p0 = (b.length : Int) then (some (out, 0)) else (some ([], 3)))
def packet_Decode.in_ (l0 : List Int) : List Int := (l0.take ((l0.length : Int) - 4).toNat).drop (3 : Int).toNat
def packet_Decode.sums (l0 : List Int) : Bool := (List.range 4).all fun j => rd l0 ((l0.length : Int) - 4 + (j : Nat)) == shr .u32 (X.crc (l0.take ((l0.length : Int) - 4).toNat)) (8 * ((j : Nat) : Int)) % 256
def packet_Decode.f (k : Nat) (l0 : List Int) : Option (List S25 × Int) := if l0.length < 7 then (some ([], 2)) else (if l0.length ≤ 1000000 then (if (strOfNums (l0.take 3)).toList = [84, 83, 49] then (if packet_Decode.sums l0 = true then ((codec_Int.f k (packet_Decode.in_ l0) 0).bind fun t => (if t.2.2 = 0 then (if t.1 < 0 ∨ 2000 < t.1 then (some ([], 4)) else (packet_Decode.l0 k (packet_Decode.in_ l0) t.1 0 t.2.1 0 0 [])) else (some ([], t.2.2)))) else (some ([], 5))) else (some ([], 3))) else none)
theorem packet_Decode.mono_l : ∀ k a b c d e f g, LeO (packet_Decode.l0 k a b c d e f g) (packet_Decode.l0 (k + 1) a b c d e f g)
  | 0, _, _, _, _, _, _, _ => fun r h => by simp [packet_Decode.l0] at h
  | k + 1, a, b, c, d, e, f, g => by
    rw [packet_Decode.l0, packet_Decode.l0]
    refine LeO.ite (LeO.bind (codec_Int.mono _ _ _) (fun _ => LeO.ite (LeO.bind (codec_Int.mono _ _ _) (fun _ => LeO.ite (LeO.bind (LeO.refl _) (fun _ => LeO.bind (LeO.refl _) (fun _ => LeO.bind (LeO.refl _) (fun _ => LeO.ite (LeO.ite (packet_Decode.mono_l k _ _ _ _ _ _ _) (LeO.refl _)) (LeO.refl _))))) (LeO.refl _))) (LeO.refl _))) (LeO.refl _)
theorem packet_Decode.mono : ∀ a0 k, LeO (packet_Decode.f k a0) (packet_Decode.f (k + 1) a0) := by
  intro a0 k
  unfold packet_Decode.f
  exact LeO.ite (LeO.refl _) (LeO.ite (LeO.ite (LeO.ite (LeO.bind (codec_Int.mono _ _ _) (fun _ => LeO.ite (LeO.ite (LeO.refl _) (packet_Decode.mono_l _ _ _ _ _ _ _ _)) (LeO.refl _))) (LeO.refl _)) (LeO.refl _)) (LeO.refl _))
theorem packet_Decode.calls (k : Nat) (A0 : Option Addr) (c0 : Nat) (l0 : List Int) (r1 : List S25) (r2 : Int) (w : World) (hr0 : Kd.C (Kd.int .u8) w A0 l0.length l0) (hc0 : l0.length ≤ c0) (h : packet_Decode.f k l0 = some (r1, r2)) :
    Calls Try.prog 20 #[.slice A0 l0.length c0] w fun e w' => ∃ v0_ : Value, e = .returned (.tuple #[v0_, .int .i64 r2]) ∧ Kd.R k25 25 w' w.heap.size (fun _ => True) v0_ r1 ∧ Below w.heap.size w w' := by
  unfold packet_Decode.f at h
  by_cases h1 : l0.length < 7
  · rw [if_pos h1] at h
    cases h
    exact (X.decode_err A0 c0 l0 w 2 (by decide) ⟨(X.opened_short A0 c0 l0 w h1).mono fun e w' ⟨e1, e2⟩ => ⟨e1, by rw [e2]; exact Below.refl _ _⟩⟩).mono fun e w' ⟨e1, e2⟩ => ⟨_, e1, Kd.R_nil _ _ _ _ _, e2⟩
  rw [if_neg h1] at h
  by_cases h2 : l0.length ≤ 1000000
  · rw [if_pos h2] at h
    by_cases h3 : (strOfNums (l0.take 3)).toList = [84, 83, 49]
    · rw [if_pos h3] at h
      obtain ⟨A1, c1, hc1, hC, ho⟩ := X.opened_ok A0 c0 l0 w hr0 hc0 (by omega) h2 h3
      by_cases h4 : packet_Decode.sums l0 = true
      · rw [if_pos h4] at h
        have h4' : ∀ j : Nat, j < 4 → rd l0 ((l0.length : Int) - 4 + j) = shr .u32 (X.crc (l0.take ((l0.length : Int) - 4).toNat)) (8 * (j : Int)) % 256 := fun j hj => by
          have := (List.all_eq_true.1 h4) j (List.mem_range.2 hj)
          exact beq_iff_eq.1 this
        have ho' : Calls Try.prog 31 #[.slice A0 l0.length c0] w fun e w' => e = .returned (.tuple #[.slice A1 (packet_Decode.in_ l0).length c1, .int .i64 0]) ∧ Below w.heap.size w w' := ho.mono fun e w' ⟨hb, hh⟩ => by
          rcases hh with ⟨j, hj, hne, _⟩ | ⟨_, e1⟩
          · exact absurd (h4' j hj) hne
          · exact ⟨e1, hb⟩
        have hrI : Kd.C (Kd.int .u8) w A1 (packet_Decode.in_ l0).length (packet_Decode.in_ l0) := hC w hr0
        have hcI : (packet_Decode.in_ l0).length ≤ c1 := hc1
        obtain ⟨⟨n, p0, e0⟩, ht, H⟩ := Option.bind_eq_some_iff.mp h
        have hI : X.IntAt A1 c1 (packet_Decode.in_ l0) 0 n p0 e0 := fun W hW => codec_Int.calls k A1 c1 (packet_Decode.in_ l0) 0 n p0 e0 W hW hcI ht
        replace H : (if e0 = 0 then (if n < 0 ∨ 2000 < n then (some ([], 4)) else (packet_Decode.l0 k (packet_Decode.in_ l0) n 0 p0 0 0 [])) else (some ([], e0))) = some (r1, r2) := H
        by_cases h5 : e0 = 0
        · rw [if_pos h5] at H
          by_cases h6 : n < 0 ∨ 2000 < n
          · rw [if_pos h6] at H
            cases H
            refine (X.decode_count A0 c0 l0 w A1 c1 (packet_Decode.in_ l0) n p0 e0 (.inr h6) ⟨ho'⟩ hrI hI).mono fun e w' ⟨e1, e2⟩ => ⟨_, ?_, Kd.R_nil _ _ _ _ _, e2⟩
            rw [e1, if_pos h5]
          · rw [if_neg h6] at H
            subst h5
            have d1 : decide (n < 0) = false := decide_eq_false (by omega)
            have d2 : decide (2000 < n) = false := decide_eq_false (by omega)
            have HA0 := Aside0.mk H
            have HI := Aside0.mk hI
            have HO1 := Aside0.mk ho'
            clear H ho ho' h hI ht h4' h4 h3
            go_enter Try.func20, Try.ntmps20
            go_wp2_with (first | (go_at_call 31; refine HO1.out.mono ?_; rintro e w1 ⟨rfl, hb1⟩) | (go_at_call 32; refine (HI.out _ (Kd.C_below hrI hb1)).mono ?_; rintro e w2 ⟨rfl, nd, rfl⟩))
            have HG := Aside0.mk (show ((w1.drewN nd).alloc (Obj.cells #[.int .i64 0, .int .i64 0] 25)).heap[w1.heap.size]? = some (.cells #[.int .i64 0, .int .i64 0] 25 (0, 0)) from heap_alloc_new (w1.drewN nd) _)
            have HBx := Aside0.mk (show Below w.heap.size w ((w1.drewN nd).alloc (Obj.cells #[.int .i64 0, .int .i64 0] 25)) from by repeat (first | (with_reducible first | exact hb1 | apply below_alloc | apply pw_below_drewN | apply below_drew1) | exact hb1))
            have hg8 : w.heap.size ≤ w1.heap.size := below_size hb1
            generalize hW : (w1.drewN nd).alloc (Obj.cells #[.int .i64 0, .int .i64 0] 25) = W at *
            clear hW hb1
            generalize w1.heap.size = g8 at *
            go_loopg [35, 7, 6] k (fun kq v35 v7 v6 wx => ∃ (i pl p q : Int) (out : List S25), v35 = .int .i64 i ∧ v6 = .int .i64 pl ∧ Aside0 (packet_Decode.l0 kq (packet_Decode.in_ l0) n i pl p q out = some (r1, r2)) ∧ Aside0 (kq ≤ k) ∧ Aside0 (wx.heap[g8]? = some (.cells #[.int .i64 p, .int .i64 q] 25 (0, 0))) ∧ Aside0 (Kd.R k25 25 wx w.heap.size (fun k_ => k_ ≠ g8) v7 out) ∧ Aside0 (Below w.heap.size w wx))
            case atStart => exact ⟨0, p0, 0, 0, [], rfl, rfl, HA0, ⟨Nat.le_refl _⟩, HG, ⟨Kd.R_nil _ _ _ _ _⟩, HBx⟩
            case round =>
              clear HA0 HG HBx
              obtain ⟨i, pl, p, q, out, rfl, rfl, HA, HK, HGr, HOo, HBr⟩ := hrel
              cases gk with
              | zero => exact absurd HA.out (by simp [packet_Decode.l0])
              | succ k2 =>
                have H := HA.out
                clear HA
                simp only [packet_Decode.l0] at H
                by_cases hin : i < n
                · rw [if_pos hin] at H
                  have c1b : decide (i < n) = true := decide_eq_true hin
                  obtain ⟨⟨d0, t1, e1⟩, hi1, H⟩ := Option.bind_eq_some_iff.mp H
                  have HI1 := Aside0.mk hi1
                  clear hi1
                  dsimp only at H
                  have HCr := Aside0.mk (Kd.C_below hrI HBr.out)
                  have hws : w.heap.size ≤ wr.heap.size := below_size HBr.out
                  by_cases c3 : e1 = 0
                  · subst c3
                    rw [if_pos rfl] at H
                    obtain ⟨⟨d1, t2, e2⟩, hi2, H⟩ := Option.bind_eq_some_iff.mp H
                    have HI2 := Aside0.mk hi2
                    clear hi2
                    dsimp only at H
                    by_cases c4 : e2 = 0
                    · subst c4
                      rw [if_pos rfl] at H
                      go_wp2_with fail
                      refine wp_loop_rounds 3 ?_
                      rw [rounds_succ]
                      go_wp2_with (first | (go_at_call 32; refine (codec_Int.calls k2 A1 c1 (packet_Decode.in_ l0) pl d0 t1 0 _ (Kd.C_below hrI (by repeat (first | (with_reducible first | exact HBr.out | apply below_alloc | apply pw_below_drewN | apply below_drew1 | refine below_set ?_ hws) | exact HBr.out))) hcI HI1.out).mono ?_; rintro e w2 ⟨rfl, nd1, rfl⟩))
                      rw [rounds_succ]
                      go_wp2_with (first | (go_at_call 32; refine (codec_Int.calls k2 A1 c1 (packet_Decode.in_ l0) t1 d1 t2 0 _ (Kd.C_below hrI (by repeat (first | (with_reducible first | exact HBr.out | apply below_alloc | apply pw_below_drewN | apply below_drew1 | refine below_set ?_ hws) | exact HBr.out))) hcI HI2.out).mono ?_; rintro e w3 ⟨rfl, nd2, rfl⟩))
                      rw [rounds_succ]
                      go_wp2_with fail
                      obtain ⟨W3, hW3⟩ : ∃ W : World, W = (((((wr.alloc (Obj.cells #[.int .i64 0, .int .i64 0] 63)).drewN nd1).setCell ⟨wr.heap.size, 0, none⟩ (.int .i64 d0)).drewN nd2).setCell ⟨wr.heap.size, 1, none⟩ (.int .i64 d1)) := ⟨_, rfl⟩
                      have hne : g8 < wr.heap.size := blk_lt HGr.out
                      have HB3 := Aside0.mk (show Below w.heap.size w W3 from by rw [hW3]; repeat (first | (with_reducible first | exact HBr.out | apply below_alloc | apply pw_below_drewN | apply below_drew1 | refine below_set ?_ hws) | exact HBr.out))
                      have HG9 := Aside0.mk (show W3.heap[wr.heap.size]? = some (.cells #[.int .i64 d0, .int .i64 d1] 63 (0, 0)) from by rw [hW3]; refine blk_put (cs := #[.int .i64 d0, .int .i64 0]) ?_ 1 _ rfl; refine blk_drewN ?_ _; refine blk_put (cs := #[.int .i64 0, .int .i64 0]) ?_ 0 _ rfl; refine blk_drewN ?_ _; exact heap_alloc_new wr _)
                      have HG3 := Aside0.mk (show W3.heap[g8]? = some (.cells #[.int .i64 p, .int .i64 q] 25 (0, 0)) from by rw [hW3, heap_setCell_other _ _ _ _ (by simp; omega)]; refine blk_drewN ?_ _; rw [heap_setCell_other _ _ _ _ (by simp; omega)]; refine blk_drewN ?_ _; exact blk_alloc HGr.out _)
                      have HO3 := Aside0.mk (show Kd.R k25 25 W3 w.heap.size (fun k_ => k_ ≠ g8) u7 out from Kd.R_step HOo.out (fun k_ _ hk_ => by rw [hW3, heap_setCell_other _ _ _ _ (by simp; omega)]; show (World.setCell _ _ _).heap[k_]? = _; rw [heap_setCell_other _ _ _ _ (by simp; omega)]; exact Below.heap_alloc wr _ k_ hk_))
                      rw [← hW3]
                      clear hW3
                      obtain ⟨x, hx1, H⟩ := Option.bind_eq_some_iff.mp H
                      obtain ⟨y, hy1, H⟩ := Option.bind_eq_some_iff.mp H
                      obtain ⟨v, hv1, H⟩ := Option.bind_eq_some_iff.mp H
                      have HX1 := Aside0.mk hx1
                      have HX2 := Aside0.mk hy1
                      have HV := Aside0.mk hv1
                      clear hx1 hy1 hv1
                      have hfz0 := blk_frozen HG3.out 0
                      have hfz1 := blk_frozen HG3.out 1
                      have hcz0 : W3.cell? ⟨g8, 0, none⟩ = some (.int .i64 p) := (blk_cell HG3.out 0).trans rfl
                      have hcz1 : W3.cell? ⟨g8, 1, none⟩ = some (.int .i64 q) := (blk_cell HG3.out 1).trans rfl
                      refine start_ (n := 12) (S := fun w' => w'.cell? ⟨g8, 0, none⟩ = some (.int .i64 p) ∧ w'.cell? ⟨g8, 1, none⟩ = some (.int .i64 q) ∧ w'.cell? ⟨wr.heap.size, 0, none⟩ = some (.int .i64 d0) ∧ w'.cell? ⟨wr.heap.size, 1, none⟩ = some (.int .i64 d1)) (ds := [11]) #[false, false, false, false, false, false, false, false, false, false, false, false] (by kernel_rfl) rfl rfl ⟨(blk_cell HG3.out 0).trans rfl, (blk_cell HG3.out 1).trans rfl, (blk_cell HG9.out 0).trans rfl, (blk_cell HG9.out 1).trans rfl⟩ (fun hHeld => ?_)
                      refine pure_ (i := 0) (N := some 53) (v := ?_) (a' := ?_) #[true, false, false, false, false, false, false, false, false, false, false, false] rfl rfl (by kernel_rfl) (fun _ _ _ h => h) (Or.inl ⟨by rfl, ?_⟩) ?_ ?_
                      rotate_left
                      · intro w'
                        go_simp
                        with_reducible rfl
                      rotate_left
                      · simp only [Act.put, List.setIfInBounds_toArray, List.set_cons_zero, List.set_cons_succ, i64_w, i32_w]
                        rfl
                      refine pure_ (i := 2) (N := some 55) (v := ?_) (a' := ?_) #[true, false, true, false, false, false, false, false, false, false, false, false] rfl rfl (by kernel_rfl) (fun _ _ _ h => h) (Or.inl ⟨by rfl, ?_⟩) ?_ ?_
                      rotate_left
                      · intro w'
                        go_simp
                        with_reducible rfl
                      rotate_left
                      · simp only [Act.put, List.setIfInBounds_toArray, List.set_cons_zero, List.set_cons_succ, i64_w, i32_w]
                        rfl
                      refine pure_ (i := 5) (N := some 58) (v := ?_) (a' := ?_) #[true, false, true, false, false, true, false, false, false, false, false, false] rfl rfl (by kernel_rfl) (fun _ _ _ h => h) (Or.inl ⟨by rfl, ?_⟩) ?_ ?_
                      rotate_left
                      · intro w'
                        go_simp
                        with_reducible rfl
                      rotate_left
                      · simp only [Act.put, List.setIfInBounds_toArray, List.set_cons_zero, List.set_cons_succ, i64_w, i32_w]
                        rfl
                      refine pure_ (i := 7) (N := some 60) (v := ?_) (a' := ?_) #[true, false, true, false, false, true, false, true, false, false, false, false] rfl rfl (by kernel_rfl) (fun _ _ _ h => h) (Or.inl ⟨by rfl, ?_⟩) ?_ ?_
                      rotate_left
                      · intro w'
                        go_simp
                        with_reducible rfl
                      rotate_left
                      · simp only [Act.put, List.setIfInBounds_toArray, List.set_cons_zero, List.set_cons_succ, i64_w, i32_w]
                        rfl
                      refine take_ (i := 1) (N := some 54) (v := ?_) (a' := ?_) #[true, true, true, false, false, true, false, true, false, false, false, false] rfl rfl (by kernel_rfl) (fun _ _ _ h => h) (Or.inl ⟨by rfl, ?_⟩) hHeld ?_ ?_
                      rotate_left
                      · rintro w' ⟨s0, s1, s2, s3⟩
                        go_simp
                        with_reducible rfl
                      rotate_left
                      · simp only [Act.put, List.setIfInBounds_toArray, List.set_cons_zero, List.set_cons_succ, i64_w, i32_w]
                        rfl
                      refine take_ (i := 3) (N := some 56) (v := ?_) (a' := ?_) #[true, true, true, true, false, true, false, true, false, false, false, false] rfl rfl (by kernel_rfl) (fun _ _ _ h => h) (Or.inl ⟨by rfl, ?_⟩) hHeld ?_ ?_
                      rotate_left
                      · rintro w' ⟨s0, s1, s2, s3⟩
                        go_simp
                        with_reducible rfl
                      rotate_left
                      · simp only [Act.put, List.setIfInBounds_toArray, List.set_cons_zero, List.set_cons_succ, i64_w, i32_w]
                        rfl
                      refine take_ (i := 6) (N := some 59) (v := ?_) (a' := ?_) #[true, true, true, true, false, true, true, true, false, false, false, false] rfl rfl (by kernel_rfl) (fun _ _ _ h => h) (Or.inl ⟨by rfl, ?_⟩) hHeld ?_ ?_
                      rotate_left
                      · rintro w' ⟨s0, s1, s2, s3⟩
                        go_simp
                        with_reducible rfl
                      rotate_left
                      · simp only [Act.put, List.setIfInBounds_toArray, List.set_cons_zero, List.set_cons_succ, i64_w, i32_w]
                        rfl
                      refine take_ (i := 8) (N := some 61) (v := ?_) (a' := ?_) #[true, true, true, true, false, true, true, true, true, false, false, false] rfl rfl (by kernel_rfl) (fun _ _ _ h => h) (Or.inl ⟨by rfl, ?_⟩) hHeld ?_ ?_
                      rotate_left
                      · rintro w' ⟨s0, s1, s2, s3⟩
                        go_simp
                        with_reducible rfl
                      rotate_left
                      · simp only [Act.put, List.setIfInBounds_toArray, List.set_cons_zero, List.set_cons_succ, i64_w, i32_w]
                        rfl
                      refine one_ (i := 4) (N := some 57) #[true, true, true, true, true, true, true, true, true, false, false, false] rfl rfl (by kernel_rfl) (by decide) (fun K hK => ?_)
                      refine goes_ Try.func33 (by kernel_rfl) rfl #[.int .i64 p, .int .i64 d0] (by rfl) rfl rfl (by simp only [List.map_toArray, List.map_cons, List.map_nil]; rfl) ?_
                      with_reducible refine (packet_near.calls p d0 x _ HX1.out).mono ?_
                      rintro e w4 ⟨rfl, hb_nd3⟩
                      refine ⟨_, rfl, ?_⟩
                      refine hK.out _ _ ⟨((hb_nd3.cell (World.block_lt_of_cell? _ _ hHeld.1)).trans hHeld.1), ((hb_nd3.cell (World.block_lt_of_cell? _ _ hHeld.2.1)).trans hHeld.2.1), ((hb_nd3.cell (World.block_lt_of_cell? _ _ hHeld.2.2.1)).trans hHeld.2.2.1), ((hb_nd3.cell (World.block_lt_of_cell? _ _ hHeld.2.2.2)).trans hHeld.2.2.2)⟩ (fun hHeld => ?_)
                      clear hK K
                      refine norm_ (a' := ?_) ?_ ?_
                      rotate_left
                      · show Act.put _ (some 57) _ = _
                        simp only [Act.put, List.setIfInBounds_toArray, List.set_cons_zero, List.set_cons_succ, i64_w, i32_w]
                        rfl
                      refine one_ (i := 9) (N := some 62) #[true, true, true, true, true, true, true, true, true, true, false, false] rfl rfl (by kernel_rfl) (by decide) (fun K hK => ?_)
                      refine goes_ Try.func33 (by kernel_rfl) rfl #[.int .i64 q, .int .i64 d1] (by rfl) rfl rfl (by simp only [List.map_toArray, List.map_cons, List.map_nil]; rfl) ?_
                      with_reducible refine (packet_near.calls q d1 y _ HX2.out).mono ?_
                      rintro e w5 ⟨rfl, hb_nd4⟩
                      refine ⟨_, rfl, ?_⟩
                      refine hK.out _ _ ⟨((hb_nd4.cell (World.block_lt_of_cell? _ _ hHeld.1)).trans hHeld.1), ((hb_nd4.cell (World.block_lt_of_cell? _ _ hHeld.2.1)).trans hHeld.2.1), ((hb_nd4.cell (World.block_lt_of_cell? _ _ hHeld.2.2.1)).trans hHeld.2.2.1), ((hb_nd4.cell (World.block_lt_of_cell? _ _ hHeld.2.2.2)).trans hHeld.2.2.2)⟩ (fun hHeld => ?_)
                      clear hK K
                      refine norm_ (a' := ?_) ?_ ?_
                      rotate_left
                      · show Act.put _ (some 62) _ = _
                        simp only [Act.put, List.setIfInBounds_toArray, List.set_cons_zero, List.set_cons_succ, i64_w, i32_w]
                        rfl
                      refine pure_ (i := 10) (N := some 63) (v := ?_) (a' := ?_) #[true, true, true, true, true, true, true, true, true, true, true, false] rfl rfl (by kernel_rfl) (fun _ _ _ h => h) (Or.inl ⟨by rfl, ?_⟩) ?_ ?_
                      rotate_left
                      · intro w'
                        go_simp
                        with_reducible rfl
                      rotate_left
                      · simp only [Act.put, List.setIfInBounds_toArray, List.set_cons_zero, List.set_cons_succ, i64_w, i32_w]
                        rfl
                      refine last_ (i := 11) (N := none) #[true, true, true, true, true, true, true, true, true, true, true, true] rfl rfl (by kernel_rfl) (by decide) (fun K hK => ?_)
                      have HG5 := Aside0.mk (blk_below (blk_below (show W3.drew.heap[g8]? = _ from HG3.out) hb_nd3) hb_nd4)
                      have HB5 := Aside0.mk (below_step (below_step (below_drew1 HB3.out) hb_nd3) hb_nd4)
                      have HO5 := Aside0.mk (Kd.R_below (Kd.R_below (Kd.R_drew HO3.out) hb_nd3) hb_nd4)
                      have hfr0 := blk_frozen HG5.out 0
                      have hfr1 := blk_frozen HG5.out 1
                      refine skip_ (w1 := ?_) (by rfl) rfl ?_ ?_
                      rotate_left
                      · go_simp
                        rfl
                      refine hK.out _ _ ?_
                      clear hK K
                      refine done_ (by kernel_rfl) ?_
                      obtain ⟨W5, hW5⟩ : ∃ W : World, W = ((w5.setCell ⟨g8, 0, none⟩ (.int .i64 x)).setCell ⟨g8, 1, none⟩ (.int .i64 y)) := ⟨_, rfl⟩
                      have HG6 := Aside0.mk (show W5.heap[g8]? = some (.cells #[.int .i64 x, .int .i64 y] 25 (0, 0)) from by rw [hW5]; exact blk_put (cs := #[.int .i64 x, .int .i64 q]) (blk_put (cs := #[.int .i64 p, .int .i64 q]) HG5.out 0 _ rfl) 1 _ rfl)
                      have HB6 := Aside0.mk (show Below w.heap.size w W5 from by rw [hW5]; exact below_set (below_set HB5.out hg8) hg8)
                      have HO6 := Aside0.mk (show Kd.R k25 25 W5 w.heap.size (fun k_ => k_ ≠ g8) u7 out from by rw [hW5]; exact Kd.R_far (Kd.R_far HO5.out (fun _ h_ => h_) _) (fun _ h_ => h_) _)
                      rw [← hW5]
                      clear hW5 hHeld hfr0 hfr1 hcz0 hcz1 hfz0 hfz1 hb_nd3 hb_nd4
                      have hcy0 : W5.cell? ⟨g8, 0, none⟩ = some (.int .i64 x) := (blk_cell HG6.out 0).trans rfl
                      have hcy1 : W5.cell? ⟨g8, 1, none⟩ = some (.int .i64 y) := (blk_cell HG6.out 1).trans rfl
                      cases v with
                      | false =>
                        rw [if_neg (by decide)] at H
                        cases H
                        go_wp2_with (first | (go_at_call 24; refine (packet_valid.calls x y false _ HV.out).mono ?_; rintro e w6 ⟨rfl, hb6⟩))
                        go_ret2
                        exact ⟨_, rfl, Kd.R_nil _ _ _ _ _, below_step HB6.out hb6⟩
                      | true =>
                        rw [if_pos rfl] at H
                        by_cases hol : out.length < 8796093022208
                        · rw [if_pos hol] at H
                          have HA2 := Aside0.mk H
                          clear H
                          have HL := Aside0.mk hol
                          clear hol
                          go_wp2_with (first | (go_at_call 24; refine (packet_valid.calls x y true _ HV.out).mono ?_; rintro e w6 ⟨rfl, hb6⟩; have HG7 := Aside0.mk (blk_below HG6.out hb6); have HO7 := Aside0.mk (Kd.R_below HO6.out hb6); have HB7 := Aside0.mk (below_step HB6.out hb6); have hcx0 : w6.cell? ⟨g8, 0, none⟩ = some (.int .i64 x) := (blk_cell HG7.out 0).trans rfl; have hcx1 : w6.cell? ⟨g8, 1, none⟩ = some (.int .i64 y) := (blk_cell HG7.out 1).trans rfl; clear hb6) | (at_builtin; refine Kd.R_append k25 (w0 := w) w.heap.size rfl (.tmp 67) (.tmp 69) 23 25 (.agg #[(.int .i64 0), (.int .i64 0)]) 16 rfl Try.underlying23 info25 rfl (by decide) (by omega) u7 out (⟨x, y⟩ : S25) [.int .i64 x, .int .i64 y] (fun k_ => k_ ≠ g8) (fun _ => False) rfl rfl ?aP (fun _ hk => hk.elim) ?aF ?aO ?aB ?aS ?aL ?_; (case aP => exact k25_mkM _ _ _ (⟨x, y⟩ : S25)); (case aF => exact fun k_ hk_ => by have := blk_lt HG7.out; omega); (case aO => exact HO7.out); (case aB => exact HB7.out); (case aS => exact below_size HB7.out); (case aL => have := HL.out; omega); intro v1 w7 ho hb hg hat; have HG8 := Aside0.mk ((hg.block g8 (blk_lt HG7.out) (fun e_ => HO7.out.1 g8 e_.symm rfl)).trans HG7.out); have HO8 := Aside0.mk ho; have HB8 := Aside0.mk hb; clear ho hb hg hat))
                          go_roundg k2
                          case measure => omega
                          case rel => exact ⟨_, _, x, y, _, rfl, rfl, HA2, ⟨by have := HK.out; omega⟩, HG8, HO8, HB8⟩
                        · rw [if_neg hol] at H
                          cases H
                    · rw [if_neg c4] at H
                      cases H
                      have c4b : (r2 != 0) = true := bne_iff_ne.mpr c4
                      go_wp2_with fail
                      refine wp_loop_rounds 3 ?_
                      rw [rounds_succ]
                      go_wp2_with (first | (go_at_call 32; refine (codec_Int.calls k2 A1 c1 (packet_Decode.in_ l0) pl d0 t1 0 _ (Kd.C_below hrI (by repeat (first | (with_reducible first | exact HBr.out | apply below_alloc | apply pw_below_drewN | apply below_drew1 | refine below_set ?_ hws) | exact HBr.out))) hcI HI1.out).mono ?_; rintro e w2 ⟨rfl, nd1, rfl⟩))
                      rw [rounds_succ]
                      go_wp2_with (first | (go_at_call 32; refine (codec_Int.calls k2 A1 c1 (packet_Decode.in_ l0) t1 d1 t2 r2 _ (Kd.C_below hrI (by repeat (first | (with_reducible first | exact HBr.out | apply below_alloc | apply pw_below_drewN | apply below_drew1 | refine below_set ?_ hws) | exact HBr.out))) hcI HI2.out).mono ?_; rintro e w3 ⟨rfl, nd2, rfl⟩))
                      go_ret2
                      exact ⟨_, rfl, Kd.R_nil _ _ _ _ _, by repeat (first | (with_reducible first | exact HBr.out | apply below_alloc | apply pw_below_drewN | apply below_drew1 | refine below_set ?_ hws) | exact HBr.out)⟩
                  · rw [if_neg c3] at H
                    cases H
                    have c3b : (r2 != 0) = true := bne_iff_ne.mpr c3
                    go_wp2_with fail
                    refine wp_loop_rounds 3 ?_
                    rw [rounds_succ]
                    go_wp2_with (first | (go_at_call 32; refine (codec_Int.calls k2 A1 c1 (packet_Decode.in_ l0) pl d0 t1 r2 _ (Kd.C_below hrI (by repeat (first | (with_reducible first | exact HBr.out | apply below_alloc | apply pw_below_drewN | apply below_drew1 | refine below_set ?_ hws) | exact HBr.out))) hcI HI1.out).mono ?_; rintro e w2 ⟨rfl, nd1, rfl⟩))
                    go_ret2
                    exact ⟨_, rfl, Kd.R_nil _ _ _ _ _, by repeat (first | (with_reducible first | exact HBr.out | apply below_alloc | apply pw_below_drewN | apply below_drew1 | refine below_set ?_ hws) | exact HBr.out)⟩
                · rw [if_neg hin] at H
                  have c1b : decide (i < n) = false := decide_eq_false hin
                  by_cases c2 : pl = ((packet_Decode.in_ l0).length : Int)
                  · rw [if_pos c2] at H
                    cases H
                    have c2b : (pl != ((packet_Decode.in_ l0).length : Int)) = false := bne_eq_false_iff_eq.mpr c2
                    go_wp2_with fail
                    go_ret2
                    exact ⟨_, rfl, Kd.R_mono HOo.out (fun _ _ => trivial), HBr.out⟩
                  · rw [if_neg c2] at H
                    cases H
                    have c2b : (pl != ((packet_Decode.in_ l0).length : Int)) = true := bne_iff_ne.mpr c2
                    go_wp2_with fail
                    go_ret2
                    exact ⟨_, rfl, Kd.R_nil _ _ _ _ _, HBr.out⟩
        · rw [if_neg h5] at H
          cases H
          refine (X.decode_count A0 c0 l0 w A1 c1 (packet_Decode.in_ l0) n p0 _ (.inl h5) ⟨ho'⟩ hrI hI).mono fun e w' ⟨e1, e2⟩ => ⟨_, ?_, Kd.R_nil _ _ _ _ _, e2⟩
          rw [e1, if_neg h5]
      · rw [if_neg h4] at h
        cases h
        refine (X.decode_err A0 c0 l0 w 5 (by decide) ⟨ho.mono fun e w' ⟨hb, hh⟩ => ?_⟩).mono fun e w' ⟨e1, e2⟩ => ⟨_, e1, Kd.R_nil _ _ _ _ _, e2⟩
        rcases hh with ⟨j, hj, hne, e1⟩ | ⟨hall, _⟩
        · exact ⟨e1, hb⟩
        · refine absurd (List.all_eq_true.2 fun j hj => ?_) h4
          exact beq_iff_eq.2 (hall j (List.mem_range.1 hj))
    · rw [if_neg h3] at h
      cases h
      exact (X.decode_err A0 c0 l0 w 3 (by decide) ⟨(X.opened_form A0 c0 l0 w hr0 hc0 (by omega) h2 h3).mono fun e w' ⟨e1, e2⟩ => ⟨e1, by rw [e2]; exact Below.refl _ _⟩⟩).mono fun e w' ⟨e1, e2⟩ => ⟨_, e1, Kd.R_nil _ _ _ _ _, e2⟩
  · rw [if_neg h2] at h
    cases h

/-! ### shapesearchlaw06_PacketBack: function 6 -/
def shapesearchlaw06_PacketBack.j0 : Nat → List Int → Bool → Option (Bool)
  | 0, _, _ => none
  | k + 1, x1, x42 => if x42 = true then (some false) else ((packet_Decode.f k x1).bind fun bt205 => ((packet_Encode.f k bt205.1).bind fun bt209 => (if bt205.2 = 0 then (if bt209.2 = 0 then (if (strOfNums bt209.1).toList = (strOfNums x1).toList then ((shapesearchlaw06_awake.f k).bind fun t213 => (some t213)) else (some false)) else (some false)) else ((shapesearchlaw06_awake.f k).bind fun t214 => (some t214)))))
def shapesearchlaw06_PacketBack.f (k : Nat) (l0 : List Int) (l1 : List Int) : Option (Bool) := if (l1.length : Int) > 400 then ((shapesearchlaw06_awake.f k).bind fun t188 => (some t188)) else ((shapesearchkeep_New.f l0).bind fun bt189 => ((shapesearchkeep_Src_Readings.f k bt189.1 bt189.2 30).bind fun bt192 => ((packet_Encode.f k bt192.1).bind fun bt196 => ((packet_Decode.f k bt196.1).bind fun bt200 => (if bt196.2 = 0 then (if bt200.2 = 0 then ((shapesearchref05_Same.f k bt192.1 bt200.1).bind fun t204 => (shapesearchlaw06_PacketBack.j0 k l1 (!t204))) else (shapesearchlaw06_PacketBack.j0 k l1 true)) else (shapesearchlaw06_PacketBack.j0 k l1 true))))))
theorem shapesearchlaw06_PacketBack.mono_l : ∀ k, (∀ y0 y1, LeO (shapesearchlaw06_PacketBack.j0 k y0 y1) (shapesearchlaw06_PacketBack.j0 (k + 1) y0 y1))
  | 0 => fun _ _ r h => by simp [shapesearchlaw06_PacketBack.j0] at h
  | k + 1 => by
    have ih0 := shapesearchlaw06_PacketBack.mono_l k
    · intro y0 y1
      unfold shapesearchlaw06_PacketBack.j0
      repeat' first
      | (with_reducible exact ih0 _ _)
      | (with_reducible exact packet_Decode.mono _ _)
      | (with_reducible exact packet_Encode.mono _ _)
      | (with_reducible exact shapesearchkeep_Src_Readings.mono _ _ _ _)
      | (with_reducible exact shapesearchlaw06_awake.mono _)
      | (with_reducible exact shapesearchref05_Same.mono _ _ _)
      | (with_reducible exact LeO.refl _)
      | (with_reducible exact LeO.none _)
      | (with_reducible refine LeO.ite ?_ ?_)
      | (with_reducible refine LeO.bind ?_ (fun _ => ?_))
      | exact ih0 _ _
      | exact packet_Decode.mono _ _
      | exact packet_Encode.mono _ _
      | exact shapesearchkeep_Src_Readings.mono _ _ _ _
      | exact shapesearchlaw06_awake.mono _
      | exact shapesearchref05_Same.mono _ _ _
      | exact LeO.none _
      | refine LeO.ite ?_ ?_
      | refine LeO.bind ?_ (fun _ => ?_)
theorem shapesearchlaw06_PacketBack.mono : ∀ a0 a1 k, LeO (shapesearchlaw06_PacketBack.f k a0 a1) (shapesearchlaw06_PacketBack.f (k + 1) a0 a1) := by
  intro a0 a1 k
  have ih0 := shapesearchlaw06_PacketBack.mono_l k
  unfold shapesearchlaw06_PacketBack.f
  repeat' first
      | (with_reducible exact ih0 _ _)
      | (with_reducible exact packet_Decode.mono _ _)
      | (with_reducible exact packet_Encode.mono _ _)
      | (with_reducible exact shapesearchkeep_Src_Readings.mono _ _ _ _)
      | (with_reducible exact shapesearchlaw06_awake.mono _)
      | (with_reducible exact shapesearchref05_Same.mono _ _ _)
      | (with_reducible exact LeO.refl _)
      | (with_reducible exact LeO.none _)
      | (with_reducible refine LeO.ite ?_ ?_)
      | (with_reducible refine LeO.bind ?_ (fun _ => ?_))
      | exact ih0 _ _
      | exact packet_Decode.mono _ _
      | exact packet_Encode.mono _ _
      | exact shapesearchkeep_Src_Readings.mono _ _ _ _
      | exact shapesearchlaw06_awake.mono _
      | exact shapesearchref05_Same.mono _ _ _
      | exact LeO.none _
      | refine LeO.ite ?_ ?_
      | refine LeO.bind ?_ (fun _ => ?_)
set_option maxHeartbeats 8000000 in
set_option maxRecDepth 100000 in
theorem shapesearchlaw06_PacketBack.calls (k : Nat) (A0 : Option Addr) (c0 : Nat) (l0 : List Int) (A1 : Option Addr) (c1 : Nat) (l1 : List Int) (r : Bool) (w : World) (hr0 : Kd.C (Kd.int .i64) w A0 l0.length l0) (hc0 : l0.length ≤ c0) (hr1 : Kd.C (Kd.int .u8) w A1 l1.length l1) (hc1 : l1.length ≤ c1) (h : shapesearchlaw06_PacketBack.f k l0 l1 = some r) :
    Calls Try.prog 6 #[.slice A0 l0.length c0, .slice A1 l1.length c1] w fun e w' => e = .returned (.bool r) ∧ Below w.heap.size w w' := by
  have HR0 := Aside0.mk hr0
  have HC0 := Aside0.mk hc0
  clear hr0 hc0
  have HR1 := Aside0.mk hr1
  have HC1 := Aside0.mk hc1
  clear hr1 hc1
  have HB := Aside0.mk (Below.refl w.heap.size w)
  have H : (if (l1.length : Int) > 400 then ((shapesearchlaw06_awake.f k).bind fun t188 => (some t188)) else ((shapesearchkeep_New.f l0).bind fun bt189 => ((shapesearchkeep_Src_Readings.f k bt189.1 bt189.2 30).bind fun bt192 => ((packet_Encode.f k bt192.1).bind fun bt196 => ((packet_Decode.f k bt196.1).bind fun bt200 => (if bt196.2 = 0 then (if bt200.2 = 0 then ((shapesearchref05_Same.f k bt192.1 bt200.1).bind fun t204 => (shapesearchlaw06_PacketBack.j0 k l1 (!t204))) else (shapesearchlaw06_PacketBack.j0 k l1 true)) else (shapesearchlaw06_PacketBack.j0 k l1 true))))))) = some r := h
  clear h
  by_cases c3 : (l1.length : Int) > 400
  · rw [if_pos c3] at H
    have c3b0 : decide (400 < (l1.length : Int)) = true := decide_eq_true c3
    have c3b1 : decide (400 < l1.length) = true := decide_eq_true (by omega)
    clear c3
    replace H := Option.bind_eq_some_iff.mp H
    obtain ⟨t188, A40, H⟩ := H
    replace H : (some t188) = some r := H
    have A4 := Aside0.mk A40
    clear A40
    obtain rfl := Option.some.inj H
    go_enter Try.func6, Try.ntmps6
    go_wp2_with (first | ((with_reducible refine gate_callee (f := 9) rfl ?_); refine goesL_ (some 17) rfl rfl Try.func9 (by kernel_rfl) rfl #[] rfl (by (try simp only [List.map_toArray, List.map_cons, List.map_nil]); first | done | rfl | (simp only [List.length_drop, List.length_take]; rfl)) ?_; (with_reducible refine (shapesearchlaw06_awake.calls k  t188 _ A4.out).mono ?_); rintro e w5 ⟨rfl, hb⟩; refine ⟨_, rfl, ?_⟩; have n0_ := Aside0.mk (below_step (by repeat (first | (with_reducible first | exact HB.out | apply below_alloc | apply pw_below_drewN | apply below_drew1) | exact HB.out)) hb); clear HB; have HB := n0_; clear n0_; (try clear hb); (try clear hb2); (try clear hk); (try clear hi)))
    go_ret
    exact ⟨by first | rfl | (simp [errW_none, errW_some] <;> rfl) | (simp [*, errW_none, errW_some] <;> rfl), by repeat (first | (with_reducible first | exact HB.out | apply below_alloc | apply pw_below_drewN | apply below_drew1) | exact HB.out)⟩
  · rw [if_neg c3] at H
    have c3b0 : decide (400 < (l1.length : Int)) = false := decide_eq_false c3
    have c3b1 : decide (400 < l1.length) = false := decide_eq_false (by omega)
    clear c3
    replace H := Option.bind_eq_some_iff.mp H
    obtain ⟨⟨t189, t190⟩, A60, H⟩ := H
    replace H : ((shapesearchkeep_Src_Readings.f k t189 t190 30).bind fun bt192 => ((packet_Encode.f k bt192.1).bind fun bt196 => ((packet_Decode.f k bt196.1).bind fun bt200 => (if bt196.2 = 0 then (if bt200.2 = 0 then ((shapesearchref05_Same.f k bt192.1 bt200.1).bind fun t204 => (shapesearchlaw06_PacketBack.j0 k l1 (!t204))) else (shapesearchlaw06_PacketBack.j0 k l1 true)) else (shapesearchlaw06_PacketBack.j0 k l1 true))))) = some r := H
    have A6 := Aside0.mk A60
    clear A60
    replace H := Option.bind_eq_some_iff.mp H
    obtain ⟨⟨t192, t195⟩, A70, H⟩ := H
    replace H : ((packet_Encode.f k t192).bind fun bt196 => ((packet_Decode.f k bt196.1).bind fun bt200 => (if bt196.2 = 0 then (if bt200.2 = 0 then ((shapesearchref05_Same.f k t192 bt200.1).bind fun t204 => (shapesearchlaw06_PacketBack.j0 k l1 (!t204))) else (shapesearchlaw06_PacketBack.j0 k l1 true)) else (shapesearchlaw06_PacketBack.j0 k l1 true)))) = some r := H
    have A7 := Aside0.mk A70
    clear A70
    replace H := Option.bind_eq_some_iff.mp H
    obtain ⟨⟨t196, t197⟩, A80, H⟩ := H
    replace H : ((packet_Decode.f k t196).bind fun bt200 => (if t197 = 0 then (if bt200.2 = 0 then ((shapesearchref05_Same.f k t192 bt200.1).bind fun t204 => (shapesearchlaw06_PacketBack.j0 k l1 (!t204))) else (shapesearchlaw06_PacketBack.j0 k l1 true)) else (shapesearchlaw06_PacketBack.j0 k l1 true))) = some r := H
    have A8 := Aside0.mk A80
    clear A80
    replace H := Option.bind_eq_some_iff.mp H
    obtain ⟨⟨t200, t201⟩, A90, H⟩ := H
    replace H : (if t197 = 0 then (if t201 = 0 then ((shapesearchref05_Same.f k t192 t200).bind fun t204 => (shapesearchlaw06_PacketBack.j0 k l1 (!t204))) else (shapesearchlaw06_PacketBack.j0 k l1 true)) else (shapesearchlaw06_PacketBack.j0 k l1 true)) = some r := H
    have A9 := Aside0.mk A90
    clear A90
    have HC10 := Aside0.mk H
    clear H
    go_enter Try.func6, Try.ntmps6
    go_upto_region 6 with (first | ((with_reducible refine gate_callee (f := 11) rfl ?_); refine goesL_ (some 19) rfl rfl Try.func11 (by kernel_rfl) rfl #[.slice A0 l0.length c0] rfl (by (try simp only [List.map_toArray, List.map_cons, List.map_nil]); first | done | rfl | (simp only [List.length_drop, List.length_take]; rfl)) ?_; (with_reducible refine (shapesearchkeep_New.calls _ _ l0 t189 t190 w _ ?side1 ?side2 ?side3 A6.out).mono ?_); (case side1 => repeat (first | (with_reducible first | exact HB.out | apply below_alloc | apply pw_below_drewN | apply below_drew1) | exact HB.out)); (case side2 => exact HR0.out); (case side3 => exact HC0.out); rintro e w11 ⟨g191, rfl, hi, hb, hb2⟩; refine ⟨_, rfl, ?_⟩; have n0_ := Aside0.mk (hb); have n1_ := Aside0.mk (hi); clear HB; have HB := n0_; have HI191 := n1_; clear n0_ n1_; (try clear hb); (try clear hb2); (try clear hk); (try clear hi)) | ((with_reducible refine gate_callee (f := 12) rfl ?_); refine goesL_ (some 20) rfl rfl Try.func12 (by kernel_rfl) rfl #[.pointer (some ⟨g191, 0, none⟩), .int .i64 30] rfl (by (try simp only [List.map_toArray, List.map_cons, List.map_nil]); first | done | rfl | (simp only [List.length_drop, List.length_take]; rfl)) ?_; (with_reducible refine (shapesearchkeep_Src_Readings.calls k g191 t189 t190 30 t192 t195 w _ ?side1 ?side2 A7.out).mono ?_); (case side1 => repeat (first | (with_reducible first | exact HI191.out | apply IsS56.alloc | apply IsS56.drewN | apply IsS56.drew | apply IsS56.set_1) | exact HI191.out)); (case side2 => repeat (first | (with_reducible first | exact HB.out | apply below_alloc | apply pw_below_drewN | apply below_drew1 | refine below_set ?_ (IsS56.ge HI191.out)) | exact HB.out)); rintro e w12 ⟨v193, rfl, ho0, hi, hb, hk⟩; refine ⟨_, rfl, ?_⟩; have n0_ := Aside0.mk (Kd.R_lower ho0 (below_size (by repeat (first | (with_reducible first | exact HB.out | apply below_alloc | apply pw_below_drewN | apply below_drew1 | refine below_set ?_ (IsS56.ge HI191.out)) | exact HB.out)))); have n1_ := Aside0.mk (hb); have n2_ := Aside0.mk (hi); clear HB; clear HI191; have HO194 := n0_; have HB := n1_; have HI191 := n2_; clear n0_ n1_ n2_; (try clear hb); (try clear hb2); (try clear hk); (try clear hi); (try clear ho0); obtain ⟨Ao13, co13, eo13⟩ := Kd.R_slice HO194.out; subst eo13) | ((with_reducible refine gate_callee (f := 8) rfl ?_); refine goesL_ (some 23) rfl rfl Try.func8 (by kernel_rfl) rfl #[.slice Ao13 t192.length co13] rfl (by (try simp only [List.map_toArray, List.map_cons, List.map_nil]); first | done | rfl | (simp only [List.length_drop, List.length_take]; rfl)) ?_; (with_reducible refine (packet_Encode.calls k _ _ t192 t196 t197 _ ?side1 ?side2 A8.out).mono ?_); (case side1 => repeat (first | exact (Kd.R_reads' HO194.out).2.2 | (with_reducible refine Kd.C_alloc ?_ _) | (with_reducible refine Kd.C_drewN ?_ _) | (with_reducible refine Kd.C_drew ?_))); (case side2 => exact (Kd.R_reads' HO194.out).2.1); rintro e w14 ⟨v198, rfl, ho0, hb⟩; refine ⟨_, rfl, ?_⟩; have n0_ := Aside0.mk (Kd.R_below (by (with_reducible repeat (first | apply Kd.R_alloc | apply Kd.R_drewN | apply Kd.R_drew)); exact HO194.out) hb); have n1_ := Aside0.mk (Kd.R_lower ho0 (below_size (by repeat (first | (with_reducible first | exact HB.out | apply below_alloc | apply pw_below_drewN | apply below_drew1 | refine below_set ?_ (IsS56.ge HI191.out)) | exact HB.out)))); have n2_ := Aside0.mk (IsS56.below (by repeat (first | (with_reducible first | exact HI191.out | apply IsS56.alloc | apply IsS56.drewN | apply IsS56.drew | apply IsS56.set_1) | exact HI191.out)) hb); have n3_ := Aside0.mk (below_step (by repeat (first | (with_reducible first | exact HB.out | apply below_alloc | apply pw_below_drewN | apply below_drew1 | refine below_set ?_ (IsS56.ge HI191.out)) | exact HB.out)) hb); clear HO194; clear HI191; clear HB; have HO194 := n0_; have HO199 := n1_; have HI191 := n2_; have HB := n3_; clear n0_ n1_ n2_ n3_; (try clear hb); (try clear hb2); (try clear hk); (try clear hi); (try clear ho0); obtain ⟨Ao15, co15, eo15⟩ := Kd.R_slice HO199.out; subst eo15) | ((with_reducible refine gate_callee (f := 20) rfl ?_); refine goesL_ (some 28) rfl rfl Try.func20 (by kernel_rfl) rfl #[.slice Ao15 t196.length co15] rfl (by (try simp only [List.map_toArray, List.map_cons, List.map_nil]); first | done | rfl | (simp only [List.length_drop, List.length_take]; rfl)) ?_; (with_reducible refine (packet_Decode.calls k _ _ t196 t200 t201 _ ?side1 ?side2 A9.out).mono ?_); (case side1 => repeat (first | exact (Kd.R_reads' HO199.out).2.2 | (with_reducible refine Kd.C_alloc ?_ _) | (with_reducible refine Kd.C_drewN ?_ _) | (with_reducible refine Kd.C_drew ?_))); (case side2 => exact (Kd.R_reads' HO199.out).2.1); rintro e w16 ⟨v202, rfl, ho0, hb⟩; refine ⟨_, rfl, ?_⟩; have n0_ := Aside0.mk (Kd.R_elder' (by (with_reducible repeat (first | apply Kd.R_alloc | apply Kd.R_drewN | apply Kd.R_drew)); exact HO194.out) (Kd.R_base ho0) hb); have n1_ := Aside0.mk (Kd.R_below (by (with_reducible repeat (first | apply Kd.R_alloc | apply Kd.R_drewN | apply Kd.R_drew)); exact HO199.out) hb); have n2_ := Aside0.mk (Kd.R_lower (Kd.R_new' ho0 (Kd.R_lt (by (with_reducible repeat (first | apply Kd.R_alloc | apply Kd.R_drewN | apply Kd.R_drew)); exact HO194.out))) (below_size (by repeat (first | (with_reducible first | exact HB.out | apply below_alloc | apply pw_below_drewN | apply below_drew1 | refine below_set ?_ (IsS56.ge HI191.out)) | exact HB.out)))); have n3_ := Aside0.mk (IsS56.below (by repeat (first | (with_reducible first | exact HI191.out | apply IsS56.alloc | apply IsS56.drewN | apply IsS56.drew | apply IsS56.set_1) | exact HI191.out)) hb); have n4_ := Aside0.mk (below_step (by repeat (first | (with_reducible first | exact HB.out | apply below_alloc | apply pw_below_drewN | apply below_drew1 | refine below_set ?_ (IsS56.ge HI191.out)) | exact HB.out)) hb); clear HO194; clear HO199; clear HI191; clear HB; have HO194 := n0_; have HO199 := n1_; have HO203 := n2_; have HI191 := n3_; have HB := n4_; clear n0_ n1_ n2_ n3_ n4_; (try clear hb); (try clear hb2); (try clear hk); (try clear hi); (try clear ho0)))
    (try simp only [Act.put, List.setIfInBounds_toArray, List.set_cons_zero, List.set_cons_succ])
    go_cut [42] (fun v42 wc => ∃ (kq : Nat) (x42_9 : Bool), v42 = .bool x42_9 ∧ Aside0 (shapesearchlaw06_PacketBack.j0 kq l1 x42_9 = some r) ∧ Aside0 (kq ≤ k) ∧ Aside0 (Below w.heap.size w wc))
    case first =>
      have H := HC10.out
      clear HC10
      by_cases c17 : t197 = 0
      · rw [if_pos c17] at H
        have c17b0 : (t197 == 0) = true := beq_iff_eq.mpr c17
        have c17b1 : (t197 != 0) = false := bne_eq_false_iff_eq.mpr c17
        clear c17
        (first | rw [c17b0] | (simp only [i64_w, i32_w]; rw [c17b0]) | skip)
        by_cases c18 : t201 = 0
        · rw [if_pos c18] at H
          have c18b0 : (t201 == 0) = true := beq_iff_eq.mpr c18
          have c18b1 : (t201 != 0) = false := bne_eq_false_iff_eq.mpr c18
          clear c18
          replace H := Option.bind_eq_some_iff.mp H
          obtain ⟨t204, A190, H⟩ := H
          replace H : (shapesearchlaw06_PacketBack.j0 k l1 (!t204)) = some r := H
          have A19 := Aside0.mk A190
          clear A190
          have H' := Aside0.mk H
          clear H
          obtain ⟨Ao20, co20, eo20⟩ := Kd.R_slice HO203.out
          subst eo20
          go_wp2_with (first | (go_at_call 13; (with_reducible refine (shapesearchref05_Same.calls k _ _ t192 _ _ t200 t204 _ ?side1 ?side2 ?side3 ?side4 A19.out).mono ?_); (case side1 => repeat (first | exact (Kd.R_reads' HO194.out).2.2 | (with_reducible refine Kd.C_alloc ?_ _) | (with_reducible refine Kd.C_drewN ?_ _) | (with_reducible refine Kd.C_drew ?_))); (case side2 => exact (Kd.R_reads' HO194.out).2.1); (case side3 => repeat (first | exact (Kd.R_reads' HO203.out).2.2 | (with_reducible refine Kd.C_alloc ?_ _) | (with_reducible refine Kd.C_drewN ?_ _) | (with_reducible refine Kd.C_drew ?_))); (case side4 => exact (Kd.R_reads' HO203.out).2.1); rintro e w' ⟨rfl, ⟨nd, rfl⟩⟩))
          go_meet
          case rel => exact ⟨_, (!t204), (by first | rfl | (simp; done) | (simp [*]; done)), H', ⟨by first | omega | exact Nat.le_refl _⟩, ⟨by repeat (first | (with_reducible first | exact HB.out | apply below_alloc | apply pw_below_drewN | apply below_drew1 | refine below_set ?_ (IsS56.ge HI191.out)) | exact HB.out)⟩⟩
        · rw [if_neg c18] at H
          have c18b0 : (t201 == 0) = false := beq_eq_false_iff_ne.mpr c18
          have c18b1 : (t201 != 0) = true := bne_iff_ne.mpr c18
          have H' := Aside0.mk H
          clear H
          go_wp2
          go_meet
          case rel => exact ⟨_, (true), (by first | rfl | (simp; done) | (simp [*]; done)), H', ⟨by first | omega | exact Nat.le_refl _⟩, ⟨by repeat (first | (with_reducible first | exact HB.out | apply below_alloc | apply pw_below_drewN | apply below_drew1 | refine below_set ?_ (IsS56.ge HI191.out)) | exact HB.out)⟩⟩
      · rw [if_neg c17] at H
        have c17b0 : (t197 == 0) = false := beq_eq_false_iff_ne.mpr c17
        have c17b1 : (t197 != 0) = true := bne_iff_ne.mpr c17
        (first | rw [c17b0] | (simp only [i64_w, i32_w]; rw [c17b0]) | skip)
        have H' := Aside0.mk H
        clear H
        go_wp2
        go_meet
        case rel => exact ⟨_, (true), (by first | rfl | (simp; done) | (simp [*]; done)), H', ⟨by first | omega | exact Nat.le_refl _⟩, ⟨by repeat (first | (with_reducible first | exact HB.out | apply below_alloc | apply pw_below_drewN | apply below_drew1 | refine below_set ?_ (IsS56.ge HI191.out)) | exact HB.out)⟩⟩
    case rest =>
      clear HC10
      try clear c1
      try clear c2
      try clear p2
      try clear c3
      try clear c3b0
      try clear c3b1
      try clear c6
      try clear c8
      try clear c9
      try clear c11
      try clear c12
      try clear c17
      try clear c17b0
      try clear c17b1
      try clear c18
      try clear c18b0
      try clear c18b1
      try clear c20
      obtain ⟨kq, x42_9, rfl, HA, HJ9, HB⟩ := hcut
      cases kq with
      | zero => exact absurd HA.out (by simp [shapesearchlaw06_PacketBack.j0])
      | succ kj9 =>
        have H := HA.out
        clear HA
        simp only [shapesearchlaw06_PacketBack.j0] at H
        by_cases c21 : x42_9 = true
        · subst c21
          have H1 : (some false) = some r := by rw [if_pos rfl] at H; exact H
          clear H
          have H := H1
          clear H1
          obtain rfl := Option.some.inj H
          go_wp2
          go_ret
          exact ⟨by first | rfl | (simp [errW_none, errW_some] <;> rfl) | (simp [*, errW_none, errW_some] <;> rfl), by repeat (first | (with_reducible first | exact HB.out | apply below_alloc | apply pw_below_drewN | apply below_drew1) | exact HB.out)⟩
        · replace c21 := Bool.eq_false_iff.mpr c21
          subst c21
          have H1 : ((packet_Decode.f kj9 l1).bind fun bt205 => ((packet_Encode.f kj9 bt205.1).bind fun bt209 => (if bt205.2 = 0 then (if bt209.2 = 0 then (if (strOfNums bt209.1).toList = (strOfNums l1).toList then ((shapesearchlaw06_awake.f kj9).bind fun t213 => (some t213)) else (some false)) else (some false)) else ((shapesearchlaw06_awake.f kj9).bind fun t214 => (some t214))))) = some r := by rw [if_neg (show ¬ (false = true) by decide)] at H; exact H
          clear H
          have H := H1
          clear H1
          replace H := Option.bind_eq_some_iff.mp H
          obtain ⟨⟨t205, t206⟩, A220, H⟩ := H
          replace H : ((packet_Encode.f kj9 t205).bind fun bt209 => (if t206 = 0 then (if bt209.2 = 0 then (if (strOfNums bt209.1).toList = (strOfNums l1).toList then ((shapesearchlaw06_awake.f kj9).bind fun t213 => (some t213)) else (some false)) else (some false)) else ((shapesearchlaw06_awake.f kj9).bind fun t214 => (some t214)))) = some r := H
          have A22 := Aside0.mk A220
          clear A220
          replace H := Option.bind_eq_some_iff.mp H
          obtain ⟨⟨t209, t210⟩, A230, H⟩ := H
          replace H : (if t206 = 0 then (if t210 = 0 then (if (strOfNums t209).toList = (strOfNums l1).toList then ((shapesearchlaw06_awake.f kj9).bind fun t213 => (some t213)) else (some false)) else (some false)) else ((shapesearchlaw06_awake.f kj9).bind fun t214 => (some t214))) = some r := H
          have A23 := Aside0.mk A230
          clear A230
          by_cases c24 : t206 = 0
          · rw [if_pos c24] at H
            have c24b0 : (t206 == 0) = true := beq_iff_eq.mpr c24
            have c24b1 : (t206 != 0) = false := bne_eq_false_iff_eq.mpr c24
            clear c24
            by_cases c25 : t210 = 0
            · rw [if_pos c25] at H
              have c25b0 : (t210 == 0) = true := beq_iff_eq.mpr c25
              have c25b1 : (t210 != 0) = false := bne_eq_false_iff_eq.mpr c25
              clear c25
              by_cases c26 : (strOfNums t209).toList = (strOfNums l1).toList
              · rw [if_pos c26] at H
                have c26b0 : ((strOfNums t209).toList == (strOfNums l1).toList) = true := beq_iff_eq.mpr c26
                have c26b1 : ((strOfNums t209).toList != (strOfNums l1).toList) = false := bne_eq_false_iff_eq.mpr c26
                clear c26
                replace H := Option.bind_eq_some_iff.mp H
                obtain ⟨t213, A270, H⟩ := H
                replace H : (some t213) = some r := H
                have A27 := Aside0.mk A270
                clear A270
                obtain rfl := Option.some.inj H
                go_wp2_with (first | ((with_reducible refine gate_callee (f := 20) rfl ?_); refine goesL_ (some 45) rfl rfl Try.func20 (by kernel_rfl) rfl #[.slice A1 l1.length c1] rfl (by (try simp only [List.map_toArray, List.map_cons, List.map_nil]); first | done | rfl | (simp only [List.length_drop, List.length_take]; rfl)) ?_; (with_reducible refine (packet_Decode.calls kj9 _ _ l1 t205 t206 _ ?side1 ?side2 A22.out).mono ?_); (case side1 => repeat (first | exact (Kd.C_below HR1.out HB.out) | (with_reducible refine Kd.C_alloc ?_ _) | (with_reducible refine Kd.C_drewN ?_ _) | (with_reducible refine Kd.C_drew ?_))); (case side2 => exact HC1.out); rintro e w28 ⟨v207, rfl, ho0, hb⟩; refine ⟨_, rfl, ?_⟩; have n0_ := Aside0.mk (Kd.R_lower ho0 (below_size (by repeat (first | (with_reducible first | exact HB.out | apply below_alloc | apply pw_below_drewN | apply below_drew1) | exact HB.out)))); have n1_ := Aside0.mk (below_step (by repeat (first | (with_reducible first | exact HB.out | apply below_alloc | apply pw_below_drewN | apply below_drew1) | exact HB.out)) hb); clear HB; have HO208 := n0_; have HB := n1_; clear n0_ n1_; (try clear hb); (try clear hb2); (try clear hk); (try clear hi); (try clear ho0); obtain ⟨Ao29, co29, eo29⟩ := Kd.R_slice HO208.out; subst eo29) | ((with_reducible refine gate_callee (f := 8) rfl ?_); refine goesL_ (some 50) rfl rfl Try.func8 (by kernel_rfl) rfl #[.slice Ao29 t205.length co29] rfl (by (try simp only [List.map_toArray, List.map_cons, List.map_nil]); first | done | rfl | (simp only [List.length_drop, List.length_take]; rfl)) ?_; (with_reducible refine (packet_Encode.calls kj9 _ _ t205 t209 t210 _ ?side1 ?side2 A23.out).mono ?_); (case side1 => repeat (first | exact (Kd.R_reads' HO208.out).2.2 | (with_reducible refine Kd.C_alloc ?_ _) | (with_reducible refine Kd.C_drewN ?_ _) | (with_reducible refine Kd.C_drew ?_))); (case side2 => exact (Kd.R_reads' HO208.out).2.1); rintro e w30 ⟨v211, rfl, ho0, hb⟩; refine ⟨_, rfl, ?_⟩; have n0_ := Aside0.mk (Kd.R_below (by (with_reducible repeat (first | apply Kd.R_alloc | apply Kd.R_drewN | apply Kd.R_drew)); exact HO208.out) hb); have n1_ := Aside0.mk (Kd.R_lower ho0 (below_size (by repeat (first | (with_reducible first | exact HB.out | apply below_alloc | apply pw_below_drewN | apply below_drew1) | exact HB.out)))); have n2_ := Aside0.mk (below_step (by repeat (first | (with_reducible first | exact HB.out | apply below_alloc | apply pw_below_drewN | apply below_drew1) | exact HB.out)) hb); clear HO208; clear HB; have HO208 := n0_; have HO212 := n1_; have HB := n2_; clear n0_ n1_ n2_; (try clear hb); (try clear hb2); (try clear hk); (try clear hi); (try clear ho0); have hcv31 := own_string (P := Try.prog) Try.underlying26 Try.underlying5 Try.underlying9 (Kd.own_of_R HO212.out); have hcv32 := Kd.C_string (P := Try.prog) (A := A1) (c := c1) Try.underlying26 Try.underlying5 Try.underlying9 (Kd.C_below HR1.out HB.out)) | (go_at_call 9; (with_reducible refine (shapesearchlaw06_awake.calls kj9  t213 _ A27.out).mono ?_); rintro e w33 ⟨rfl, hb⟩; have n0_ := Aside0.mk (Kd.R_below (by (with_reducible repeat (first | apply Kd.R_alloc | apply Kd.R_drewN | apply Kd.R_drew)); exact HO208.out) hb); have n1_ := Aside0.mk (Kd.R_below (by (with_reducible repeat (first | apply Kd.R_alloc | apply Kd.R_drewN | apply Kd.R_drew)); exact HO212.out) hb); have n2_ := Aside0.mk (below_step (by repeat (first | (with_reducible first | exact HB.out | apply below_alloc | apply pw_below_drewN | apply below_drew1) | exact HB.out)) hb); clear HO208; clear HO212; clear HB; have HO208 := n0_; have HO212 := n1_; have HB := n2_; clear n0_ n1_ n2_; (try clear hb); (try clear hb2); (try clear hk); (try clear hi)))
                go_ret
                exact ⟨by first | rfl | (simp [errW_none, errW_some] <;> rfl) | (simp [*, errW_none, errW_some] <;> rfl), by repeat (first | (with_reducible first | exact HB.out | apply below_alloc | apply pw_below_drewN | apply below_drew1) | exact HB.out)⟩
              · rw [if_neg c26] at H
                have c26b0 : ((strOfNums t209).toList == (strOfNums l1).toList) = false := beq_eq_false_iff_ne.mpr c26
                have c26b1 : ((strOfNums t209).toList != (strOfNums l1).toList) = true := bne_iff_ne.mpr c26
                obtain rfl := Option.some.inj H
                go_wp2_with (first | ((with_reducible refine gate_callee (f := 20) rfl ?_); refine goesL_ (some 45) rfl rfl Try.func20 (by kernel_rfl) rfl #[.slice A1 l1.length c1] rfl (by (try simp only [List.map_toArray, List.map_cons, List.map_nil]); first | done | rfl | (simp only [List.length_drop, List.length_take]; rfl)) ?_; (with_reducible refine (packet_Decode.calls kj9 _ _ l1 t205 t206 _ ?side1 ?side2 A22.out).mono ?_); (case side1 => repeat (first | exact (Kd.C_below HR1.out HB.out) | (with_reducible refine Kd.C_alloc ?_ _) | (with_reducible refine Kd.C_drewN ?_ _) | (with_reducible refine Kd.C_drew ?_))); (case side2 => exact HC1.out); rintro e w34 ⟨v207, rfl, ho0, hb⟩; refine ⟨_, rfl, ?_⟩; have n0_ := Aside0.mk (Kd.R_lower ho0 (below_size (by repeat (first | (with_reducible first | exact HB.out | apply below_alloc | apply pw_below_drewN | apply below_drew1) | exact HB.out)))); have n1_ := Aside0.mk (below_step (by repeat (first | (with_reducible first | exact HB.out | apply below_alloc | apply pw_below_drewN | apply below_drew1) | exact HB.out)) hb); clear HB; have HO208 := n0_; have HB := n1_; clear n0_ n1_; (try clear hb); (try clear hb2); (try clear hk); (try clear hi); (try clear ho0); obtain ⟨Ao35, co35, eo35⟩ := Kd.R_slice HO208.out; subst eo35) | ((with_reducible refine gate_callee (f := 8) rfl ?_); refine goesL_ (some 50) rfl rfl Try.func8 (by kernel_rfl) rfl #[.slice Ao35 t205.length co35] rfl (by (try simp only [List.map_toArray, List.map_cons, List.map_nil]); first | done | rfl | (simp only [List.length_drop, List.length_take]; rfl)) ?_; (with_reducible refine (packet_Encode.calls kj9 _ _ t205 t209 t210 _ ?side1 ?side2 A23.out).mono ?_); (case side1 => repeat (first | exact (Kd.R_reads' HO208.out).2.2 | (with_reducible refine Kd.C_alloc ?_ _) | (with_reducible refine Kd.C_drewN ?_ _) | (with_reducible refine Kd.C_drew ?_))); (case side2 => exact (Kd.R_reads' HO208.out).2.1); rintro e w36 ⟨v211, rfl, ho0, hb⟩; refine ⟨_, rfl, ?_⟩; have n0_ := Aside0.mk (Kd.R_below (by (with_reducible repeat (first | apply Kd.R_alloc | apply Kd.R_drewN | apply Kd.R_drew)); exact HO208.out) hb); have n1_ := Aside0.mk (Kd.R_lower ho0 (below_size (by repeat (first | (with_reducible first | exact HB.out | apply below_alloc | apply pw_below_drewN | apply below_drew1) | exact HB.out)))); have n2_ := Aside0.mk (below_step (by repeat (first | (with_reducible first | exact HB.out | apply below_alloc | apply pw_below_drewN | apply below_drew1) | exact HB.out)) hb); clear HO208; clear HB; have HO208 := n0_; have HO212 := n1_; have HB := n2_; clear n0_ n1_ n2_; (try clear hb); (try clear hb2); (try clear hk); (try clear hi); (try clear ho0); have hcv37 := own_string (P := Try.prog) Try.underlying26 Try.underlying5 Try.underlying9 (Kd.own_of_R HO212.out); have hcv38 := Kd.C_string (P := Try.prog) (A := A1) (c := c1) Try.underlying26 Try.underlying5 Try.underlying9 (Kd.C_below HR1.out HB.out)))
                go_ret
                exact ⟨by first | rfl | (simp [errW_none, errW_some] <;> rfl) | (simp [*, errW_none, errW_some] <;> rfl), by repeat (first | (with_reducible first | exact HB.out | apply below_alloc | apply pw_below_drewN | apply below_drew1) | exact HB.out)⟩
            · rw [if_neg c25] at H
              have c25b0 : (t210 == 0) = false := beq_eq_false_iff_ne.mpr c25
              have c25b1 : (t210 != 0) = true := bne_iff_ne.mpr c25
              obtain rfl := Option.some.inj H
              go_wp2_with (first | ((with_reducible refine gate_callee (f := 20) rfl ?_); refine goesL_ (some 45) rfl rfl Try.func20 (by kernel_rfl) rfl #[.slice A1 l1.length c1] rfl (by (try simp only [List.map_toArray, List.map_cons, List.map_nil]); first | done | rfl | (simp only [List.length_drop, List.length_take]; rfl)) ?_; (with_reducible refine (packet_Decode.calls kj9 _ _ l1 t205 t206 _ ?side1 ?side2 A22.out).mono ?_); (case side1 => repeat (first | exact (Kd.C_below HR1.out HB.out) | (with_reducible refine Kd.C_alloc ?_ _) | (with_reducible refine Kd.C_drewN ?_ _) | (with_reducible refine Kd.C_drew ?_))); (case side2 => exact HC1.out); rintro e w39 ⟨v207, rfl, ho0, hb⟩; refine ⟨_, rfl, ?_⟩; have n0_ := Aside0.mk (Kd.R_lower ho0 (below_size (by repeat (first | (with_reducible first | exact HB.out | apply below_alloc | apply pw_below_drewN | apply below_drew1) | exact HB.out)))); have n1_ := Aside0.mk (below_step (by repeat (first | (with_reducible first | exact HB.out | apply below_alloc | apply pw_below_drewN | apply below_drew1) | exact HB.out)) hb); clear HB; have HO208 := n0_; have HB := n1_; clear n0_ n1_; (try clear hb); (try clear hb2); (try clear hk); (try clear hi); (try clear ho0); obtain ⟨Ao40, co40, eo40⟩ := Kd.R_slice HO208.out; subst eo40) | ((with_reducible refine gate_callee (f := 8) rfl ?_); refine goesL_ (some 50) rfl rfl Try.func8 (by kernel_rfl) rfl #[.slice Ao40 t205.length co40] rfl (by (try simp only [List.map_toArray, List.map_cons, List.map_nil]); first | done | rfl | (simp only [List.length_drop, List.length_take]; rfl)) ?_; (with_reducible refine (packet_Encode.calls kj9 _ _ t205 t209 t210 _ ?side1 ?side2 A23.out).mono ?_); (case side1 => repeat (first | exact (Kd.R_reads' HO208.out).2.2 | (with_reducible refine Kd.C_alloc ?_ _) | (with_reducible refine Kd.C_drewN ?_ _) | (with_reducible refine Kd.C_drew ?_))); (case side2 => exact (Kd.R_reads' HO208.out).2.1); rintro e w41 ⟨v211, rfl, ho0, hb⟩; refine ⟨_, rfl, ?_⟩; have n0_ := Aside0.mk (Kd.R_below (by (with_reducible repeat (first | apply Kd.R_alloc | apply Kd.R_drewN | apply Kd.R_drew)); exact HO208.out) hb); have n1_ := Aside0.mk (Kd.R_lower ho0 (below_size (by repeat (first | (with_reducible first | exact HB.out | apply below_alloc | apply pw_below_drewN | apply below_drew1) | exact HB.out)))); have n2_ := Aside0.mk (below_step (by repeat (first | (with_reducible first | exact HB.out | apply below_alloc | apply pw_below_drewN | apply below_drew1) | exact HB.out)) hb); clear HO208; clear HB; have HO208 := n0_; have HO212 := n1_; have HB := n2_; clear n0_ n1_ n2_; (try clear hb); (try clear hb2); (try clear hk); (try clear hi); (try clear ho0)))
              go_ret
              exact ⟨by first | rfl | (simp [errW_none, errW_some] <;> rfl) | (simp [*, errW_none, errW_some] <;> rfl), by repeat (first | (with_reducible first | exact HB.out | apply below_alloc | apply pw_below_drewN | apply below_drew1) | exact HB.out)⟩
          · rw [if_neg c24] at H
            have c24b0 : (t206 == 0) = false := beq_eq_false_iff_ne.mpr c24
            have c24b1 : (t206 != 0) = true := bne_iff_ne.mpr c24
            replace H := Option.bind_eq_some_iff.mp H
            obtain ⟨t214, A420, H⟩ := H
            replace H : (some t214) = some r := H
            have A42 := Aside0.mk A420
            clear A420
            obtain rfl := Option.some.inj H
            go_wp2_with (first | ((with_reducible refine gate_callee (f := 20) rfl ?_); refine goesL_ (some 45) rfl rfl Try.func20 (by kernel_rfl) rfl #[.slice A1 l1.length c1] rfl (by (try simp only [List.map_toArray, List.map_cons, List.map_nil]); first | done | rfl | (simp only [List.length_drop, List.length_take]; rfl)) ?_; (with_reducible refine (packet_Decode.calls kj9 _ _ l1 t205 t206 _ ?side1 ?side2 A22.out).mono ?_); (case side1 => repeat (first | exact (Kd.C_below HR1.out HB.out) | (with_reducible refine Kd.C_alloc ?_ _) | (with_reducible refine Kd.C_drewN ?_ _) | (with_reducible refine Kd.C_drew ?_))); (case side2 => exact HC1.out); rintro e w43 ⟨v207, rfl, ho0, hb⟩; refine ⟨_, rfl, ?_⟩; have n0_ := Aside0.mk (Kd.R_lower ho0 (below_size (by repeat (first | (with_reducible first | exact HB.out | apply below_alloc | apply pw_below_drewN | apply below_drew1) | exact HB.out)))); have n1_ := Aside0.mk (below_step (by repeat (first | (with_reducible first | exact HB.out | apply below_alloc | apply pw_below_drewN | apply below_drew1) | exact HB.out)) hb); clear HB; have HO208 := n0_; have HB := n1_; clear n0_ n1_; (try clear hb); (try clear hb2); (try clear hk); (try clear hi); (try clear ho0); obtain ⟨Ao44, co44, eo44⟩ := Kd.R_slice HO208.out; subst eo44) | ((with_reducible refine gate_callee (f := 8) rfl ?_); refine goesL_ (some 50) rfl rfl Try.func8 (by kernel_rfl) rfl #[.slice Ao44 t205.length co44] rfl (by (try simp only [List.map_toArray, List.map_cons, List.map_nil]); first | done | rfl | (simp only [List.length_drop, List.length_take]; rfl)) ?_; (with_reducible refine (packet_Encode.calls kj9 _ _ t205 t209 t210 _ ?side1 ?side2 A23.out).mono ?_); (case side1 => repeat (first | exact (Kd.R_reads' HO208.out).2.2 | (with_reducible refine Kd.C_alloc ?_ _) | (with_reducible refine Kd.C_drewN ?_ _) | (with_reducible refine Kd.C_drew ?_))); (case side2 => exact (Kd.R_reads' HO208.out).2.1); rintro e w45 ⟨v211, rfl, ho0, hb⟩; refine ⟨_, rfl, ?_⟩; have n0_ := Aside0.mk (Kd.R_below (by (with_reducible repeat (first | apply Kd.R_alloc | apply Kd.R_drewN | apply Kd.R_drew)); exact HO208.out) hb); have n1_ := Aside0.mk (Kd.R_lower ho0 (below_size (by repeat (first | (with_reducible first | exact HB.out | apply below_alloc | apply pw_below_drewN | apply below_drew1) | exact HB.out)))); have n2_ := Aside0.mk (below_step (by repeat (first | (with_reducible first | exact HB.out | apply below_alloc | apply pw_below_drewN | apply below_drew1) | exact HB.out)) hb); clear HO208; clear HB; have HO208 := n0_; have HO212 := n1_; have HB := n2_; clear n0_ n1_ n2_; (try clear hb); (try clear hb2); (try clear hk); (try clear hi); (try clear ho0)) | (go_at_call 9; (with_reducible refine (shapesearchlaw06_awake.calls kj9  t214 _ A42.out).mono ?_); rintro e w46 ⟨rfl, hb⟩; have n0_ := Aside0.mk (Kd.R_below (by (with_reducible repeat (first | apply Kd.R_alloc | apply Kd.R_drewN | apply Kd.R_drew)); exact HO208.out) hb); have n1_ := Aside0.mk (Kd.R_below (by (with_reducible repeat (first | apply Kd.R_alloc | apply Kd.R_drewN | apply Kd.R_drew)); exact HO212.out) hb); have n2_ := Aside0.mk (below_step (by repeat (first | (with_reducible first | exact HB.out | apply below_alloc | apply pw_below_drewN | apply below_drew1) | exact HB.out)) hb); clear HO208; clear HO212; clear HB; have HO208 := n0_; have HO212 := n1_; have HB := n2_; clear n0_ n1_ n2_; (try clear hb); (try clear hb2); (try clear hk); (try clear hi)))
            go_ret
            exact ⟨by first | rfl | (simp [errW_none, errW_some] <;> rfl) | (simp [*, errW_none, errW_some] <;> rfl), by repeat (first | (with_reducible first | exact HB.out | apply below_alloc | apply pw_below_drewN | apply below_drew1) | exact HB.out)⟩

/-- THE ONE PURE STATEMENT of shapesearchlaw06_PacketBack: yours. -/
def shapesearchlaw06_PacketBack.Pure : Prop := ∀ (l0 : List Int) (l1 : List Int), l0.length ≤ maxLen → l0.length * 8 ≤ 140737488351232 → (∀ x ∈ l0, (Lit.int .i64 x).wf = true) → l1.length ≤ maxLen → l1.length * 1 ≤ 140737488351232 → (∀ x ∈ l1, (Lit.int .u8 x).wf = true) → ∃ k, shapesearchlaw06_PacketBack.f k l0 l1 = some true
theorem shapesearchlaw06_PacketBack.walk (P : shapesearchlaw06_PacketBack.Pure) (a0 : Option Addr) (len0 cap0 : Nat) (z0 : List Int) (a1 : Option Addr) (len1 cap1 : Nat) (z1 : List Int) (w : World) (w0 : (a0 = none ∧ len0 = 0 ∧ cap0 = 0 ∧ z0 = []) ∨ ∃ x, a0 = some x ∧ len0 ≤ cap0 ∧ cap0 ≤ maxLen ∧ z0.length = cap0 ∧ (∀ i, i < z0.length → w.cell? (x.add i) = some (.int .i64 (z0.getD i 0))) ∧ ∀ n ∈ z0, (Lit.int .i64 n).wf = true) (y0 : len0 * 8 ≤ 140737488351232) (w1 : (a1 = none ∧ len1 = 0 ∧ cap1 = 0 ∧ z1 = []) ∨ ∃ x, a1 = some x ∧ len1 ≤ cap1 ∧ cap1 ≤ maxLen ∧ z1.length = cap1 ∧ (∀ i, i < z1.length → w.cell? (x.add i) = some (.int .u8 (z1.getD i 0))) ∧ ∀ n ∈ z1, (Lit.int .u8 n).wf = true) (y1 : len1 * 1 ≤ 140737488351232) :
    Calls Try.prog 6 #[.slice a0 len0 cap0, .slice a1 len1 cap1] w fun e w' => e = .returned (.bool true) ∧ Below w.heap.size w w' := by
  obtain ⟨l0, rfl, hr0, hm0, hw0, hc0⟩ := ReadsInt.ofRowC w0
  obtain ⟨l1, rfl, hr1, hm1, hw1, hc1⟩ := ReadsInt.ofRowC w1
  obtain ⟨k, h⟩ := P l0 l1 hm0 y0 hw0 hm1 y1 hw1
  refine (shapesearchlaw06_PacketBack.calls k _ _ l0 _ _ l1 true w (Kd.C_of_reads (d := (0 : Int)) (h1 := fun _ => rfl) hr0) hc0 (Kd.C_of_reads (d := (0 : Int)) (h1 := fun _ => rfl) hr1) hc1 h).mono ?_
  rintro e w' ⟨rfl, hd⟩
  exact ⟨rfl, hd⟩

end Go.Proofs.Ytgmiilolikbekaa.PPacketBack
