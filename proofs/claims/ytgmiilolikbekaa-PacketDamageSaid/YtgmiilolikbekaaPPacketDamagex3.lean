/- This file proves, function by function, what the Go functions that one law uses compute; most of it was printed by a program (wip/tools of this session, over the kit's print). -/
import Derived.Test.YtgmiilolikbekaaPPacketDamagex0
import Derived.Test.YtgmiilolikbekaaPPacketDamagex1
import Derived.Test.YtgmiilolikbekaaPPacketDamagex2
namespace Go.Proofs.Ytgmiilolikbekaa.PPacketDamage
open Go.RowKit Go.Proofs.YtgmiilolikbekaaW.PrintWords Go.Proofs.YtgmiilolikbekaaW.PrintLast Go.Proofs.YtgmiilolikbekaaW.PrintMore
attribute [local go_sem] max2_int min2_int max_two min_two max_three min_three max_four min_four   -- for this text's walks alone
set_option linter.unusedVariables false
set_option linter.unusedSimpArgs false

/-! ### packet_Decode: function 20 -/
def packet_Decode.l0 : Nat → List Int → Int → Int → Int → Int → Int → List S25 → Option (List S25 × Int)
  | 0, _, _, _, _, _, _, _ => none
  | k + 1, b, n, i, p0, p, q, out => if i < n then ((codec_Int.f k b p0).bind fun t => (if t.2.2 = 0 then ((codec_Int.f k b t.2.1).bind fun u => (if u.2.2 = 0 then ((packet_near.f p t.1).bind fun x => ((packet_near.f q u.1).bind fun y => ((packet_valid.f x y).bind fun v => (if v = true then (if out.length < 8796093022208 then (packet_Decode.l0 k b n (wrap64 (i + 1)) u.2.1 x y (out ++ [(⟨x, y⟩ : S25)])) else none) else (some ([], 1)))))) else (some ([], u.2.2)))) else (some ([], t.2.2)))) else (if p0 = (b.length : Int) then (some (out, 0)) else (some ([], 3)))
def packet_Decode.in_ (l0 : List Int) : List Int := (l0.take ((l0.length : Int) - 4).toNat).drop (3 : Int).toNat
def packet_Decode.sums (l0 : List Int) : Bool := (List.range 4).all fun j => rd l0 ((l0.length : Int) - 4 + (j : Nat)) == shr .u32 (X.crc (l0.take ((l0.length : Int) - 4).toNat)) (8 * ((j : Nat) : Int)) % 256
def packet_Decode.f (k : Nat) (l0 : List Int) : Option (List S25 × Int) := if l0.length < 7 then (some ([], 2)) else (if l0.length ≤ 1000000 then (if (strOfNums (l0.take 3)).toList = [84, 83, 49] then (if packet_Decode.sums l0 = true then ((codec_Int.f k (packet_Decode.in_ l0) 0).bind fun t => (if t.2.2 = 0 then (if t.1 < 0 ∨ 2000 < t.1 then (some ([], 4)) else (packet_Decode.l0 k (packet_Decode.in_ l0) t.1 0 t.2.1 0 0 [])) else (some ([], t.2.2)))) else (some ([], 5))) else (some ([], 3))) else none)
theorem packet_Decode.mono_l : ∀ k a b c d e f g, LeO (packet_Decode.l0 k a b c d e f g) (packet_Decode.l0 (k + 1) a b c d e f g)
  | 0, _, _, _, _, _, _, _ => fun r h => by simp [packet_Decode.l0] at h
  | k + 1, a, b, c, d, e, f, g => by
    rw [packet_Decode.l0, packet_Decode.l0]
    refine LeO.ite (LeO.bind (codec_Int.mono _ _ _) (fun _ => LeO.ite (LeO.bind (codec_Int.mono _ _ _) (fun _ => LeO.ite (LeO.bind (LeO.refl _) (fun _ => LeO.bind (LeO.refl _) (fun _ => LeO.bind (LeO.refl _) (fun _ => LeO.ite (LeO.ite (packet_Decode.mono_l k _ _ _ _ _ _ _) (LeO.refl _)) (LeO.refl _))))) (LeO.refl _))) (LeO.refl _))) (LeO.refl _)
theorem packet_Decode.mono : ∀ a0 k, LeO (packet_Decode.f k a0) (packet_Decode.f (k + 1) a0) := by
  intro a0 k
  unfold packet_Decode.f
  exact LeO.ite (LeO.refl _) (LeO.ite (LeO.ite (LeO.ite (LeO.bind (codec_Int.mono _ _ _) (fun _ => LeO.ite (LeO.ite (LeO.refl _) (packet_Decode.mono_l _ _ _ _ _ _ _ _)) (LeO.refl _))) (LeO.refl _)) (LeO.refl _)) (LeO.refl _))
theorem packet_Decode.calls (k : Nat) (A0 : Option Addr) (c0 : Nat) (l0 : List Int) (r1 : List S25) (r2 : Int) (w : World) (hr0 : Kd.C (Kd.int .u8) w A0 l0.length l0) (hc0 : l0.length ≤ c0) (h : packet_Decode.f k l0 = some (r1, r2)) :
    Calls Try.prog 20 #[.slice A0 l0.length c0] w fun e w' => ∃ v0_ : Value, e = .returned (.tuple #[v0_, .int .i64 r2]) ∧ Kd.R k25 25 w' w.heap.size (fun _ => True) v0_ r1 ∧ Below w.heap.size w w' := by
  unfold packet_Decode.f at h
  by_cases h1 : l0.length < 7
  · rw [if_pos h1] at h
    cases h
    exact (X.decode_err A0 c0 l0 w 2 (by decide) ⟨(X.opened_short A0 c0 l0 w h1).mono fun e w' ⟨e1, e2⟩ => ⟨e1, by rw [e2]; exact Below.refl _ _⟩⟩).mono fun e w' ⟨e1, e2⟩ => ⟨_, e1, Kd.R_nil _ _ _ _ _, e2⟩
  rw [if_neg h1] at h
  by_cases h2 : l0.length ≤ 1000000
  · rw [if_pos h2] at h
    by_cases h3 : (strOfNums (l0.take 3)).toList = [84, 83, 49]
    · rw [if_pos h3] at h
      obtain ⟨A1, c1, hc1, hC, ho⟩ := X.opened_ok A0 c0 l0 w hr0 hc0 (by omega) h2 h3
      by_cases h4 : packet_Decode.sums l0 = true
      · rw [if_pos h4] at h
        have h4' : ∀ j : Nat, j < 4 → rd l0 ((l0.length : Int) - 4 + j) = shr .u32 (X.crc (l0.take ((l0.length : Int) - 4).toNat)) (8 * (j : Int)) % 256 := fun j hj => by
          have := (List.all_eq_true.1 h4) j (List.mem_range.2 hj)
          exact beq_iff_eq.1 this
        have ho' : Calls Try.prog 31 #[.slice A0 l0.length c0] w fun e w' => e = .returned (.tuple #[.slice A1 (packet_Decode.in_ l0).length c1, .int .i64 0]) ∧ Below w.heap.size w w' := ho.mono fun e w' ⟨hb, hh⟩ => by
          rcases hh with ⟨j, hj, hne, _⟩ | ⟨_, e1⟩
          · exact absurd (h4' j hj) hne
          · exact ⟨e1, hb⟩
        have hrI : Kd.C (Kd.int .u8) w A1 (packet_Decode.in_ l0).length (packet_Decode.in_ l0) := hC w hr0
        have hcI : (packet_Decode.in_ l0).length ≤ c1 := hc1
        obtain ⟨⟨n, p0, e0⟩, ht, H⟩ := Option.bind_eq_some_iff.mp h
        have hI : X.IntAt A1 c1 (packet_Decode.in_ l0) 0 n p0 e0 := fun W hW => codec_Int.calls k A1 c1 (packet_Decode.in_ l0) 0 n p0 e0 W hW hcI ht
        replace H : (if e0 = 0 then (if n < 0 ∨ 2000 < n then (some ([], 4)) else (packet_Decode.l0 k (packet_Decode.in_ l0) n 0 p0 0 0 [])) else (some ([], e0))) = some (r1, r2) := H
        by_cases h5 : e0 = 0
        · rw [if_pos h5] at H
          by_cases h6 : n < 0 ∨ 2000 < n
          · rw [if_pos h6] at H
            cases H
            refine (X.decode_count A0 c0 l0 w A1 c1 (packet_Decode.in_ l0) n p0 e0 (.inr h6) ⟨ho'⟩ hrI hI).mono fun e w' ⟨e1, e2⟩ => ⟨_, ?_, Kd.R_nil _ _ _ _ _, e2⟩
            rw [e1, if_pos h5]
          · rw [if_neg h6] at H
            subst h5
            have d1 : decide (n < 0) = false := decide_eq_false (by omega)
            have d2 : decide (2000 < n) = false := decide_eq_false (by omega)
            have HA0 := Aside0.mk H
            have HI := Aside0.mk hI
            have HO1 := Aside0.mk ho'
            clear H ho ho' h hI ht h4' h4 h3
            go_enter Try.func20, Try.ntmps20
            go_wp2_with (first | (go_at_call 31; refine HO1.out.mono ?_; rintro e w1 ⟨rfl, hb1⟩) | (go_at_call 32; refine (HI.out _ (Kd.C_below hrI hb1)).mono ?_; rintro e w2 ⟨rfl, nd, rfl⟩))
            have HG := Aside0.mk (show ((w1.drewN nd).alloc (Obj.cells #[.int .i64 0, .int .i64 0] 25)).heap[w1.heap.size]? = some (.cells #[.int .i64 0, .int .i64 0] 25 (0, 0)) from heap_alloc_new (w1.drewN nd) _)
            have HBx := Aside0.mk (show Below w.heap.size w ((w1.drewN nd).alloc (Obj.cells #[.int .i64 0, .int .i64 0] 25)) from by repeat (first | (with_reducible first | exact hb1 | apply below_alloc | apply pw_below_drewN | apply below_drew1) | exact hb1))
            have hg8 : w.heap.size ≤ w1.heap.size := below_size hb1
            generalize hW : (w1.drewN nd).alloc (Obj.cells #[.int .i64 0, .int .i64 0] 25) = W at *
            clear hW hb1
            generalize w1.heap.size = g8 at *
            go_loopg [35, 7, 6] k (fun kq v35 v7 v6 wx => ∃ (i pl p q : Int) (out : List S25), v35 = .int .i64 i ∧ v6 = .int .i64 pl ∧ Aside0 (packet_Decode.l0 kq (packet_Decode.in_ l0) n i pl p q out = some (r1, r2)) ∧ Aside0 (kq ≤ k) ∧ Aside0 (wx.heap[g8]? = some (.cells #[.int .i64 p, .int .i64 q] 25 (0, 0))) ∧ Aside0 (Kd.R k25 25 wx w.heap.size (fun k_ => k_ ≠ g8) v7 out) ∧ Aside0 (Below w.heap.size w wx))
            case atStart => exact ⟨0, p0, 0, 0, [], rfl, rfl, HA0, ⟨Nat.le_refl _⟩, HG, ⟨Kd.R_nil _ _ _ _ _⟩, HBx⟩
            case round =>
              clear HA0 HG HBx
              obtain ⟨i, pl, p, q, out, rfl, rfl, HA, HK, HGr, HOo, HBr⟩ := hrel
              cases gk with
              | zero => exact absurd HA.out (by simp [packet_Decode.l0])
              | succ k2 =>
                have H := HA.out
                clear HA
                simp only [packet_Decode.l0] at H
                by_cases hin : i < n
                · rw [if_pos hin] at H
                  have c1b : decide (i < n) = true := decide_eq_true hin
                  obtain ⟨⟨d0, t1, e1⟩, hi1, H⟩ := Option.bind_eq_some_iff.mp H
                  have HI1 := Aside0.mk hi1
                  clear hi1
                  dsimp only at H
                  have HCr := Aside0.mk (Kd.C_below hrI HBr.out)
                  have hws : w.heap.size ≤ wr.heap.size := below_size HBr.out
                  by_cases c3 : e1 = 0
                  · subst c3
                    rw [if_pos rfl] at H
                    obtain ⟨⟨d1, t2, e2⟩, hi2, H⟩ := Option.bind_eq_some_iff.mp H
                    have HI2 := Aside0.mk hi2
                    clear hi2
                    dsimp only at H
                    by_cases c4 : e2 = 0
                    · subst c4
                      rw [if_pos rfl] at H
                      go_wp2_with fail
                      refine wp_loop_rounds 3 ?_
                      rw [rounds_succ]
                      go_wp2_with (first | (go_at_call 32; refine (codec_Int.calls k2 A1 c1 (packet_Decode.in_ l0) pl d0 t1 0 _ (Kd.C_below hrI (by repeat (first | (with_reducible first | exact HBr.out | apply below_alloc | apply pw_below_drewN | apply below_drew1 | refine below_set ?_ hws) | exact HBr.out))) hcI HI1.out).mono ?_; rintro e w2 ⟨rfl, nd1, rfl⟩))
                      rw [rounds_succ]
                      go_wp2_with (first | (go_at_call 32; refine (codec_Int.calls k2 A1 c1 (packet_Decode.in_ l0) t1 d1 t2 0 _ (Kd.C_below hrI (by repeat (first | (with_reducible first | exact HBr.out | apply below_alloc | apply pw_below_drewN | apply below_drew1 | refine below_set ?_ hws) | exact HBr.out))) hcI HI2.out).mono ?_; rintro e w3 ⟨rfl, nd2, rfl⟩))
                      rw [rounds_succ]
                      go_wp2_with fail
                      obtain ⟨W3, hW3⟩ : ∃ W : World, W = (((((wr.alloc (Obj.cells #[.int .i64 0, .int .i64 0] 63)).drewN nd1).setCell ⟨wr.heap.size, 0, none⟩ (.int .i64 d0)).drewN nd2).setCell ⟨wr.heap.size, 1, none⟩ (.int .i64 d1)) := ⟨_, rfl⟩
                      have hne : g8 < wr.heap.size := blk_lt HGr.out
                      have HB3 := Aside0.mk (show Below w.heap.size w W3 from by rw [hW3]; repeat (first | (with_reducible first | exact HBr.out | apply below_alloc | apply pw_below_drewN | apply below_drew1 | refine below_set ?_ hws) | exact HBr.out))
                      have HG9 := Aside0.mk (show W3.heap[wr.heap.size]? = some (.cells #[.int .i64 d0, .int .i64 d1] 63 (0, 0)) from by rw [hW3]; refine blk_put (cs := #[.int .i64 d0, .int .i64 0]) ?_ 1 _ rfl; refine blk_drewN ?_ _; refine blk_put (cs := #[.int .i64 0, .int .i64 0]) ?_ 0 _ rfl; refine blk_drewN ?_ _; exact heap_alloc_new wr _)
                      have HG3 := Aside0.mk (show W3.heap[g8]? = some (.cells #[.int .i64 p, .int .i64 q] 25 (0, 0)) from by rw [hW3, heap_setCell_other _ _ _ _ (by simp; omega)]; refine blk_drewN ?_ _; rw [heap_setCell_other _ _ _ _ (by simp; omega)]; refine blk_drewN ?_ _; exact blk_alloc HGr.out _)
                      have HO3 := Aside0.mk (show Kd.R k25 25 W3 w.heap.size (fun k_ => k_ ≠ g8) u7 out from Kd.R_step HOo.out (fun k_ _ hk_ => by rw [hW3, heap_setCell_other _ _ _ _ (by simp; omega)]; show (World.setCell _ _ _).heap[k_]? = _; rw [heap_setCell_other _ _ _ _ (by simp; omega)]; exact Below.heap_alloc wr _ k_ hk_))
                      rw [← hW3]
                      clear hW3
                      obtain ⟨x, hx1, H⟩ := Option.bind_eq_some_iff.mp H
                      obtain ⟨y, hy1, H⟩ := Option.bind_eq_some_iff.mp H
                      obtain ⟨v, hv1, H⟩ := Option.bind_eq_some_iff.mp H
                      have HX1 := Aside0.mk hx1
                      have HX2 := Aside0.mk hy1
                      have HV := Aside0.mk hv1
                      clear hx1 hy1 hv1
                      have hfz0 := blk_frozen HG3.out 0
                      have hfz1 := blk_frozen HG3.out 1
                      have hcz0 : W3.cell? ⟨g8, 0, none⟩ = some (.int .i64 p) := (blk_cell HG3.out 0).trans rfl
                      have hcz1 : W3.cell? ⟨g8, 1, none⟩ = some (.int .i64 q) := (blk_cell HG3.out 1).trans rfl
                      refine start_ (n := 12) (S := fun w' => w'.cell? ⟨g8, 0, none⟩ = some (.int .i64 p) ∧ w'.cell? ⟨g8, 1, none⟩ = some (.int .i64 q) ∧ w'.cell? ⟨wr.heap.size, 0, none⟩ = some (.int .i64 d0) ∧ w'.cell? ⟨wr.heap.size, 1, none⟩ = some (.int .i64 d1)) (ds := [11]) #[false, false, false, false, false, false, false, false, false, false, false, false] (by kernel_rfl) rfl rfl ⟨(blk_cell HG3.out 0).trans rfl, (blk_cell HG3.out 1).trans rfl, (blk_cell HG9.out 0).trans rfl, (blk_cell HG9.out 1).trans rfl⟩ (fun hHeld => ?_)
                      refine pure_ (i := 0) (N := some 53) (v := ?_) (a' := ?_) #[true, false, false, false, false, false, false, false, false, false, false, false] rfl rfl (by kernel_rfl) (fun _ _ _ h => h) (Or.inl ⟨by rfl, ?_⟩) ?_ ?_
                      rotate_left
                      · intro w'
                        go_simp
                        with_reducible rfl
                      rotate_left
                      · simp only [Act.put, List.setIfInBounds_toArray, List.set_cons_zero, List.set_cons_succ, i64_w, i32_w]
                        rfl
                      refine pure_ (i := 2) (N := some 55) (v := ?_) (a' := ?_) #[true, false, true, false, false, false, false, false, false, false, false, false] rfl rfl (by kernel_rfl) (fun _ _ _ h => h) (Or.inl ⟨by rfl, ?_⟩) ?_ ?_
                      rotate_left
                      · intro w'
                        go_simp
                        with_reducible rfl
                      rotate_left
                      · simp only [Act.put, List.setIfInBounds_toArray, List.set_cons_zero, List.set_cons_succ, i64_w, i32_w]
                        rfl
                      refine pure_ (i := 5) (N := some 58) (v := ?_) (a' := ?_) #[true, false, true, false, false, true, false, false, false, false, false, false] rfl rfl (by kernel_rfl) (fun _ _ _ h => h) (Or.inl ⟨by rfl, ?_⟩) ?_ ?_
                      rotate_left
                      · intro w'
                        go_simp
                        with_reducible rfl
                      rotate_left
                      · simp only [Act.put, List.setIfInBounds_toArray, List.set_cons_zero, List.set_cons_succ, i64_w, i32_w]
                        rfl
                      refine pure_ (i := 7) (N := some 60) (v := ?_) (a' := ?_) #[true, false, true, false, false, true, false, true, false, false, false, false] rfl rfl (by kernel_rfl) (fun _ _ _ h => h) (Or.inl ⟨by rfl, ?_⟩) ?_ ?_
                      rotate_left
                      · intro w'
                        go_simp
                        with_reducible rfl
                      rotate_left
                      · simp only [Act.put, List.setIfInBounds_toArray, List.set_cons_zero, List.set_cons_succ, i64_w, i32_w]
                        rfl
                      refine take_ (i := 1) (N := some 54) (v := ?_) (a' := ?_) #[true, true, true, false, false, true, false, true, false, false, false, false] rfl rfl (by kernel_rfl) (fun _ _ _ h => h) (Or.inl ⟨by rfl, ?_⟩) hHeld ?_ ?_
                      rotate_left
                      · rintro w' ⟨s0, s1, s2, s3⟩
                        go_simp
                        with_reducible rfl
                      rotate_left
                      · simp only [Act.put, List.setIfInBounds_toArray, List.set_cons_zero, List.set_cons_succ, i64_w, i32_w]
                        rfl
                      refine take_ (i := 3) (N := some 56) (v := ?_) (a' := ?_) #[true, true, true, true, false, true, false, true, false, false, false, false] rfl rfl (by kernel_rfl) (fun _ _ _ h => h) (Or.inl ⟨by rfl, ?_⟩) hHeld ?_ ?_
                      rotate_left
                      · rintro w' ⟨s0, s1, s2, s3⟩
                        go_simp
                        with_reducible rfl
                      rotate_left
                      · simp only [Act.put, List.setIfInBounds_toArray, List.set_cons_zero, List.set_cons_succ, i64_w, i32_w]
                        rfl
                      refine take_ (i := 6) (N := some 59) (v := ?_) (a' := ?_) #[true, true, true, true, false, true, true, true, false, false, false, false] rfl rfl (by kernel_rfl) (fun _ _ _ h => h) (Or.inl ⟨by rfl, ?_⟩) hHeld ?_ ?_
                      rotate_left
                      · rintro w' ⟨s0, s1, s2, s3⟩
                        go_simp
                        with_reducible rfl
                      rotate_left
                      · simp only [Act.put, List.setIfInBounds_toArray, List.set_cons_zero, List.set_cons_succ, i64_w, i32_w]
                        rfl
                      refine take_ (i := 8) (N := some 61) (v := ?_) (a' := ?_) #[true, true, true, true, false, true, true, true, true, false, false, false] rfl rfl (by kernel_rfl) (fun _ _ _ h => h) (Or.inl ⟨by rfl, ?_⟩) hHeld ?_ ?_
                      rotate_left
                      · rintro w' ⟨s0, s1, s2, s3⟩
                        go_simp
                        with_reducible rfl
                      rotate_left
                      · simp only [Act.put, List.setIfInBounds_toArray, List.set_cons_zero, List.set_cons_succ, i64_w, i32_w]
                        rfl
                      refine one_ (i := 4) (N := some 57) #[true, true, true, true, true, true, true, true, true, false, false, false] rfl rfl (by kernel_rfl) (by decide) (fun K hK => ?_)
                      refine goes_ Try.func33 (by kernel_rfl) rfl #[.int .i64 p, .int .i64 d0] (by rfl) rfl rfl (by simp only [List.map_toArray, List.map_cons, List.map_nil]; rfl) ?_
                      with_reducible refine (packet_near.calls p d0 x _ HX1.out).mono ?_
                      rintro e w4 ⟨rfl, hb_nd3⟩
                      refine ⟨_, rfl, ?_⟩
                      refine hK.out _ _ ⟨((hb_nd3.cell (World.block_lt_of_cell? _ _ hHeld.1)).trans hHeld.1), ((hb_nd3.cell (World.block_lt_of_cell? _ _ hHeld.2.1)).trans hHeld.2.1), ((hb_nd3.cell (World.block_lt_of_cell? _ _ hHeld.2.2.1)).trans hHeld.2.2.1), ((hb_nd3.cell (World.block_lt_of_cell? _ _ hHeld.2.2.2)).trans hHeld.2.2.2)⟩ (fun hHeld => ?_)
                      clear hK K
                      refine norm_ (a' := ?_) ?_ ?_
                      rotate_left
                      · show Act.put _ (some 57) _ = _
                        simp only [Act.put, List.setIfInBounds_toArray, List.set_cons_zero, List.set_cons_succ, i64_w, i32_w]
                        rfl
                      refine one_ (i := 9) (N := some 62) #[true, true, true, true, true, true, true, true, true, true, false, false] rfl rfl (by kernel_rfl) (by decide) (fun K hK => ?_)
                      refine goes_ Try.func33 (by kernel_rfl) rfl #[.int .i64 q, .int .i64 d1] (by rfl) rfl rfl (by simp only [List.map_toArray, List.map_cons, List.map_nil]; rfl) ?_
                      with_reducible refine (packet_near.calls q d1 y _ HX2.out).mono ?_
                      rintro e w5 ⟨rfl, hb_nd4⟩
                      refine ⟨_, rfl, ?_⟩
                      refine hK.out _ _ ⟨((hb_nd4.cell (World.block_lt_of_cell? _ _ hHeld.1)).trans hHeld.1), ((hb_nd4.cell (World.block_lt_of_cell? _ _ hHeld.2.1)).trans hHeld.2.1), ((hb_nd4.cell (World.block_lt_of_cell? _ _ hHeld.2.2.1)).trans hHeld.2.2.1), ((hb_nd4.cell (World.block_lt_of_cell? _ _ hHeld.2.2.2)).trans hHeld.2.2.2)⟩ (fun hHeld => ?_)
                      clear hK K
                      refine norm_ (a' := ?_) ?_ ?_
                      rotate_left
                      · show Act.put _ (some 62) _ = _
                        simp only [Act.put, List.setIfInBounds_toArray, List.set_cons_zero, List.set_cons_succ, i64_w, i32_w]
                        rfl
                      refine pure_ (i := 10) (N := some 63) (v := ?_) (a' := ?_) #[true, true, true, true, true, true, true, true, true, true, true, false] rfl rfl (by kernel_rfl) (fun _ _ _ h => h) (Or.inl ⟨by rfl, ?_⟩) ?_ ?_
                      rotate_left
                      · intro w'
                        go_simp
                        with_reducible rfl
                      rotate_left
                      · simp only [Act.put, List.setIfInBounds_toArray, List.set_cons_zero, List.set_cons_succ, i64_w, i32_w]
                        rfl
                      refine last_ (i := 11) (N := none) #[true, true, true, true, true, true, true, true, true, true, true, true] rfl rfl (by kernel_rfl) (by decide) (fun K hK => ?_)
                      have HG5 := Aside0.mk (blk_below (blk_below (show W3.drew.heap[g8]? = _ from HG3.out) hb_nd3) hb_nd4)
                      have HB5 := Aside0.mk (below_step (below_step (below_drew1 HB3.out) hb_nd3) hb_nd4)
                      have HO5 := Aside0.mk (Kd.R_below (Kd.R_below (Kd.R_drew HO3.out) hb_nd3) hb_nd4)
                      have hfr0 := blk_frozen HG5.out 0
                      have hfr1 := blk_frozen HG5.out 1
                      refine skip_ (w1 := ?_) (by rfl) rfl ?_ ?_
                      rotate_left
                      · go_simp
                        rfl
                      refine hK.out _ _ ?_
                      clear hK K
                      refine done_ (by kernel_rfl) ?_
                      obtain ⟨W5, hW5⟩ : ∃ W : World, W = ((w5.setCell ⟨g8, 0, none⟩ (.int .i64 x)).setCell ⟨g8, 1, none⟩ (.int .i64 y)) := ⟨_, rfl⟩
                      have HG6 := Aside0.mk (show W5.heap[g8]? = some (.cells #[.int .i64 x, .int .i64 y] 25 (0, 0)) from by rw [hW5]; exact blk_put (cs := #[.int .i64 x, .int .i64 q]) (blk_put (cs := #[.int .i64 p, .int .i64 q]) HG5.out 0 _ rfl) 1 _ rfl)
                      have HB6 := Aside0.mk (show Below w.heap.size w W5 from by rw [hW5]; exact below_set (below_set HB5.out hg8) hg8)
                      have HO6 := Aside0.mk (show Kd.R k25 25 W5 w.heap.size (fun k_ => k_ ≠ g8) u7 out from by rw [hW5]; exact Kd.R_far (Kd.R_far HO5.out (fun _ h_ => h_) _) (fun _ h_ => h_) _)
                      rw [← hW5]
                      clear hW5 hHeld hfr0 hfr1 hcz0 hcz1 hfz0 hfz1 hb_nd3 hb_nd4
                      have hcy0 : W5.cell? ⟨g8, 0, none⟩ = some (.int .i64 x) := (blk_cell HG6.out 0).trans rfl
                      have hcy1 : W5.cell? ⟨g8, 1, none⟩ = some (.int .i64 y) := (blk_cell HG6.out 1).trans rfl
                      cases v with
                      | false =>
                        rw [if_neg (by decide)] at H
                        cases H
                        go_wp2_with (first | (go_at_call 24; refine (packet_valid.calls x y false _ HV.out).mono ?_; rintro e w6 ⟨rfl, hb6⟩))
                        go_ret2
                        exact ⟨_, rfl, Kd.R_nil _ _ _ _ _, below_step HB6.out hb6⟩
                      | true =>
                        rw [if_pos rfl] at H
                        by_cases hol : out.length < 8796093022208
                        · rw [if_pos hol] at H
                          have HA2 := Aside0.mk H
                          clear H
                          have HL := Aside0.mk hol
                          clear hol
                          go_wp2_with (first | (go_at_call 24; refine (packet_valid.calls x y true _ HV.out).mono ?_; rintro e w6 ⟨rfl, hb6⟩; have HG7 := Aside0.mk (blk_below HG6.out hb6); have HO7 := Aside0.mk (Kd.R_below HO6.out hb6); have HB7 := Aside0.mk (below_step HB6.out hb6); have hcx0 : w6.cell? ⟨g8, 0, none⟩ = some (.int .i64 x) := (blk_cell HG7.out 0).trans rfl; have hcx1 : w6.cell? ⟨g8, 1, none⟩ = some (.int .i64 y) := (blk_cell HG7.out 1).trans rfl; clear hb6) | (at_builtin; refine Kd.R_append k25 (w0 := w) w.heap.size rfl (.tmp 67) (.tmp 69) 23 25 (.agg #[(.int .i64 0), (.int .i64 0)]) 16 rfl Try.underlying23 info25 rfl (by decide) (by omega) u7 out (⟨x, y⟩ : S25) [.int .i64 x, .int .i64 y] (fun k_ => k_ ≠ g8) (fun _ => False) rfl rfl ?aP (fun _ hk => hk.elim) ?aF ?aO ?aB ?aS ?aL ?_; (case aP => exact k25_mkM _ _ _ (⟨x, y⟩ : S25)); (case aF => exact fun k_ hk_ => by have := blk_lt HG7.out; omega); (case aO => exact HO7.out); (case aB => exact HB7.out); (case aS => exact below_size HB7.out); (case aL => have := HL.out; omega); intro v1 w7 ho hb hg hat; have HG8 := Aside0.mk ((hg.block g8 (blk_lt HG7.out) (fun e_ => HO7.out.1 g8 e_.symm rfl)).trans HG7.out); have HO8 := Aside0.mk ho; have HB8 := Aside0.mk hb; clear ho hb hg hat))
                          go_roundg k2
                          case measure => omega
                          case rel => exact ⟨_, _, x, y, _, rfl, rfl, HA2, ⟨by have := HK.out; omega⟩, HG8, HO8, HB8⟩
                        · rw [if_neg hol] at H
                          cases H
                    · rw [if_neg c4] at H
                      cases H
                      have c4b : (r2 != 0) = true := bne_iff_ne.mpr c4
                      go_wp2_with fail
                      refine wp_loop_rounds 3 ?_
                      rw [rounds_succ]
                      go_wp2_with (first | (go_at_call 32; refine (codec_Int.calls k2 A1 c1 (packet_Decode.in_ l0) pl d0 t1 0 _ (Kd.C_below hrI (by repeat (first | (with_reducible first | exact HBr.out | apply below_alloc | apply pw_below_drewN | apply below_drew1 | refine below_set ?_ hws) | exact HBr.out))) hcI HI1.out).mono ?_; rintro e w2 ⟨rfl, nd1, rfl⟩))
                      rw [rounds_succ]
                      go_wp2_with (first | (go_at_call 32; refine (codec_Int.calls k2 A1 c1 (packet_Decode.in_ l0) t1 d1 t2 r2 _ (Kd.C_below hrI (by repeat (first | (with_reducible first | exact HBr.out | apply below_alloc | apply pw_below_drewN | apply below_drew1 | refine below_set ?_ hws) | exact HBr.out))) hcI HI2.out).mono ?_; rintro e w3 ⟨rfl, nd2, rfl⟩))
                      go_ret2
                      exact ⟨_, rfl, Kd.R_nil _ _ _ _ _, by repeat (first | (with_reducible first | exact HBr.out | apply below_alloc | apply pw_below_drewN | apply below_drew1 | refine below_set ?_ hws) | exact HBr.out)⟩
                  · rw [if_neg c3] at H
                    cases H
                    have c3b : (r2 != 0) = true := bne_iff_ne.mpr c3
                    go_wp2_with fail
                    refine wp_loop_rounds 3 ?_
                    rw [rounds_succ]
                    go_wp2_with (first | (go_at_call 32; refine (codec_Int.calls k2 A1 c1 (packet_Decode.in_ l0) pl d0 t1 r2 _ (Kd.C_below hrI (by repeat (first | (with_reducible first | exact HBr.out | apply below_alloc | apply pw_below_drewN | apply below_drew1 | refine below_set ?_ hws) | exact HBr.out))) hcI HI1.out).mono ?_; rintro e w2 ⟨rfl, nd1, rfl⟩))
                    go_ret2
                    exact ⟨_, rfl, Kd.R_nil _ _ _ _ _, by repeat (first | (with_reducible first | exact HBr.out | apply below_alloc | apply pw_below_drewN | apply below_drew1 | refine below_set ?_ hws) | exact HBr.out)⟩
                · rw [if_neg hin] at H
                  have c1b : decide (i < n) = false := decide_eq_false hin
                  by_cases c2 : pl = ((packet_Decode.in_ l0).length : Int)
                  · rw [if_pos c2] at H
                    cases H
                    have c2b : (pl != ((packet_Decode.in_ l0).length : Int)) = false := bne_eq_false_iff_eq.mpr c2
                    go_wp2_with fail
                    go_ret2
                    exact ⟨_, rfl, Kd.R_mono HOo.out (fun _ _ => trivial), HBr.out⟩
                  · rw [if_neg c2] at H
                    cases H
                    have c2b : (pl != ((packet_Decode.in_ l0).length : Int)) = true := bne_iff_ne.mpr c2
                    go_wp2_with fail
                    go_ret2
                    exact ⟨_, rfl, Kd.R_nil _ _ _ _ _, HBr.out⟩
        · rw [if_neg h5] at H
          cases H
          refine (X.decode_count A0 c0 l0 w A1 c1 (packet_Decode.in_ l0) n p0 _ (.inl h5) ⟨ho'⟩ hrI hI).mono fun e w' ⟨e1, e2⟩ => ⟨_, ?_, Kd.R_nil _ _ _ _ _, e2⟩
          rw [e1, if_neg h5]
      · rw [if_neg h4] at h
        cases h
        refine (X.decode_err A0 c0 l0 w 5 (by decide) ⟨ho.mono fun e w' ⟨hb, hh⟩ => ?_⟩).mono fun e w' ⟨e1, e2⟩ => ⟨_, e1, Kd.R_nil _ _ _ _ _, e2⟩
        rcases hh with ⟨j, hj, hne, e1⟩ | ⟨hall, _⟩
        · exact ⟨e1, hb⟩
        · refine absurd (List.all_eq_true.2 fun j hj => ?_) h4
          exact beq_iff_eq.2 (hall j (List.mem_range.1 hj))
    · rw [if_neg h3] at h
      cases h
      exact (X.decode_err A0 c0 l0 w 3 (by decide) ⟨(X.opened_form A0 c0 l0 w hr0 hc0 (by omega) h2 h3).mono fun e w' ⟨e1, e2⟩ => ⟨e1, by rw [e2]; exact Below.refl _ _⟩⟩).mono fun e w' ⟨e1, e2⟩ => ⟨_, e1, Kd.R_nil _ _ _ _ _, e2⟩
  · rw [if_neg h2] at h
    cases h

/-! ### shapesearchlaw06_PacketDamage: function 7 -/
def shapesearchlaw06_PacketDamage.j0 : Nat → Int → Int → List Int → Bool → Option (Bool)
  | 0, _, _, _, _ => none
  | k + 1, x1, x2, x7, x25 => if x25 = true then (some false) else ((some (([] : List Int) : List Int)).bind fun y197 => (if y197.length + x7.length < 140737488355328 then ((some (y197 ++ x7 : List Int)).bind fun y200 => ((shapesearchkeep_Mod.f x1 (y200.length : Int)).bind fun t203 => (if 0 ≤ t203 then (if t203 < (y200.length : Int) then ((packet_Decode.f k (y200.set (t203 : Int).toNat (Go.bits .xor .u8 (rd y200 t203) (mx x2 1)))).bind fun bt206 => (if bt206.2 = 0 then (some false) else ((shapesearchlaw06_awake.f k).bind fun t210 => (some t210)))) else (none)) else (none)))) else (none)))
def shapesearchlaw06_PacketDamage.f (k : Nat) (l0 : List Int) (a1 : Int) (a2 : Int) : Option (Bool) := (shapesearchkeep_New.f l0).bind fun bt186 => ((shapesearchkeep_Src_Readings.f k bt186.1 bt186.2 12).bind fun bt189 => ((packet_Encode.f k bt189.1).bind fun bt193 => (if bt193.2 = 0 then (shapesearchlaw06_PacketDamage.j0 k a1 a2 bt193.1 (decide ((bt193.1.length : Int) < 8))) else (shapesearchlaw06_PacketDamage.j0 k a1 a2 bt193.1 true))))
theorem shapesearchlaw06_PacketDamage.mono_l : ∀ k, (∀ y0 y1 y2 y3, LeO (shapesearchlaw06_PacketDamage.j0 k y0 y1 y2 y3) (shapesearchlaw06_PacketDamage.j0 (k + 1) y0 y1 y2 y3))
  | 0 => fun _ _ _ _ r h => by simp [shapesearchlaw06_PacketDamage.j0] at h
  | k + 1 => by
    have ih0 := shapesearchlaw06_PacketDamage.mono_l k
    · intro y0 y1 y2 y3
      unfold shapesearchlaw06_PacketDamage.j0
      repeat' first
      | (with_reducible exact ih0 _ _ _ _)
      | (with_reducible exact packet_Decode.mono _ _)
      | (with_reducible exact packet_Encode.mono _ _)
      | (with_reducible exact shapesearchkeep_Src_Readings.mono _ _ _ _)
      | (with_reducible exact shapesearchlaw06_awake.mono _)
      | (with_reducible exact LeO.refl _)
      | (with_reducible exact LeO.none _)
      | (with_reducible refine LeO.ite ?_ ?_)
      | (with_reducible refine LeO.bind ?_ (fun _ => ?_))
      | exact ih0 _ _ _ _
      | exact packet_Decode.mono _ _
      | exact packet_Encode.mono _ _
      | exact shapesearchkeep_Src_Readings.mono _ _ _ _
      | exact shapesearchlaw06_awake.mono _
      | exact LeO.none _
      | refine LeO.ite ?_ ?_
      | refine LeO.bind ?_ (fun _ => ?_)
theorem shapesearchlaw06_PacketDamage.mono : ∀ a0 a1 a2 k, LeO (shapesearchlaw06_PacketDamage.f k a0 a1 a2) (shapesearchlaw06_PacketDamage.f (k + 1) a0 a1 a2) := by
  intro a0 a1 a2 k
  have ih0 := shapesearchlaw06_PacketDamage.mono_l k
  unfold shapesearchlaw06_PacketDamage.f
  repeat' first
      | (with_reducible exact ih0 _ _ _ _)
      | (with_reducible exact packet_Decode.mono _ _)
      | (with_reducible exact packet_Encode.mono _ _)
      | (with_reducible exact shapesearchkeep_Src_Readings.mono _ _ _ _)
      | (with_reducible exact shapesearchlaw06_awake.mono _)
      | (with_reducible exact LeO.refl _)
      | (with_reducible exact LeO.none _)
      | (with_reducible refine LeO.ite ?_ ?_)
      | (with_reducible refine LeO.bind ?_ (fun _ => ?_))
      | exact ih0 _ _ _ _
      | exact packet_Decode.mono _ _
      | exact packet_Encode.mono _ _
      | exact shapesearchkeep_Src_Readings.mono _ _ _ _
      | exact shapesearchlaw06_awake.mono _
      | exact LeO.none _
      | refine LeO.ite ?_ ?_
      | refine LeO.bind ?_ (fun _ => ?_)
set_option maxHeartbeats 8000000 in
set_option maxRecDepth 100000 in
theorem shapesearchlaw06_PacketDamage.calls (k : Nat) (A0 : Option Addr) (c0 : Nat) (l0 : List Int) (a1 : Int) (a2 : Int) (r : Bool) (w : World) (hr0 : Kd.C (Kd.int .i64) w A0 l0.length l0) (hc0 : l0.length ≤ c0) (h : shapesearchlaw06_PacketDamage.f k l0 a1 a2 = some r) :
    Calls Try.prog 7 #[.slice A0 l0.length c0, .int .i64 a1, .int .u8 a2] w fun e w' => e = .returned (.bool r) ∧ Below w.heap.size w w' := by
  have HR0 := Aside0.mk hr0
  have HC0 := Aside0.mk hc0
  clear hr0 hc0
  have HB := Aside0.mk (Below.refl w.heap.size w)
  have H : ((shapesearchkeep_New.f l0).bind fun bt186 => ((shapesearchkeep_Src_Readings.f k bt186.1 bt186.2 12).bind fun bt189 => ((packet_Encode.f k bt189.1).bind fun bt193 => (if bt193.2 = 0 then (shapesearchlaw06_PacketDamage.j0 k a1 a2 bt193.1 (decide ((bt193.1.length : Int) < 8))) else (shapesearchlaw06_PacketDamage.j0 k a1 a2 bt193.1 true))))) = some r := h
  clear h
  replace H := Option.bind_eq_some_iff.mp H
  obtain ⟨⟨t186, t187⟩, A40, H⟩ := H
  replace H : ((shapesearchkeep_Src_Readings.f k t186 t187 12).bind fun bt189 => ((packet_Encode.f k bt189.1).bind fun bt193 => (if bt193.2 = 0 then (shapesearchlaw06_PacketDamage.j0 k a1 a2 bt193.1 (decide ((bt193.1.length : Int) < 8))) else (shapesearchlaw06_PacketDamage.j0 k a1 a2 bt193.1 true)))) = some r := H
  have A4 := Aside0.mk A40
  clear A40
  replace H := Option.bind_eq_some_iff.mp H
  obtain ⟨⟨t189, t192⟩, A50, H⟩ := H
  replace H : ((packet_Encode.f k t189).bind fun bt193 => (if bt193.2 = 0 then (shapesearchlaw06_PacketDamage.j0 k a1 a2 bt193.1 (decide ((bt193.1.length : Int) < 8))) else (shapesearchlaw06_PacketDamage.j0 k a1 a2 bt193.1 true))) = some r := H
  have A5 := Aside0.mk A50
  clear A50
  replace H := Option.bind_eq_some_iff.mp H
  obtain ⟨⟨t193, t194⟩, A60, H⟩ := H
  replace H : (if t194 = 0 then (shapesearchlaw06_PacketDamage.j0 k a1 a2 t193 (decide ((t193.length : Int) < 8))) else (shapesearchlaw06_PacketDamage.j0 k a1 a2 t193 true)) = some r := H
  have A6 := Aside0.mk A60
  clear A60
  have HC7 := Aside0.mk H
  clear H
  go_enter Try.func7, Try.ntmps7
  go_upto_region 2 with (first | ((with_reducible refine gate_callee (f := 11) rfl ?_); refine goesL_ (some 14) rfl rfl Try.func11 (by kernel_rfl) rfl #[.slice A0 l0.length c0] rfl (by (try simp only [List.map_toArray, List.map_cons, List.map_nil]); first | done | rfl | (simp only [List.length_drop, List.length_take]; rfl)) ?_; (with_reducible refine (shapesearchkeep_New.calls _ _ l0 t186 t187 w _ ?side1 ?side2 ?side3 A4.out).mono ?_); (case side1 => repeat (first | (with_reducible first | exact HB.out | apply below_alloc | apply pw_below_drewN | apply below_drew1) | exact HB.out)); (case side2 => exact HR0.out); (case side3 => exact HC0.out); rintro e w8 ⟨g188, rfl, hi, hb, hb2⟩; refine ⟨_, rfl, ?_⟩; have n0_ := Aside0.mk (hb); have n1_ := Aside0.mk (hi); clear HB; have HB := n0_; have HI188 := n1_; clear n0_ n1_; (try clear hb); (try clear hb2); (try clear hk); (try clear hi)) | ((with_reducible refine gate_callee (f := 12) rfl ?_); refine goesL_ (some 15) rfl rfl Try.func12 (by kernel_rfl) rfl #[.pointer (some ⟨g188, 0, none⟩), .int .i64 12] rfl (by (try simp only [List.map_toArray, List.map_cons, List.map_nil]); first | done | rfl | (simp only [List.length_drop, List.length_take]; rfl)) ?_; (with_reducible refine (shapesearchkeep_Src_Readings.calls k g188 t186 t187 12 t189 t192 w _ ?side1 ?side2 A5.out).mono ?_); (case side1 => repeat (first | (with_reducible first | exact HI188.out | apply IsS56.alloc | apply IsS56.drewN | apply IsS56.drew | apply IsS56.set_1) | exact HI188.out)); (case side2 => repeat (first | (with_reducible first | exact HB.out | apply below_alloc | apply pw_below_drewN | apply below_drew1 | refine below_set ?_ (IsS56.ge HI188.out)) | exact HB.out)); rintro e w9 ⟨v190, rfl, ho0, hi, hb, hk⟩; refine ⟨_, rfl, ?_⟩; have n0_ := Aside0.mk (Kd.R_lower ho0 (below_size (by repeat (first | (with_reducible first | exact HB.out | apply below_alloc | apply pw_below_drewN | apply below_drew1 | refine below_set ?_ (IsS56.ge HI188.out)) | exact HB.out)))); have n1_ := Aside0.mk (hb); have n2_ := Aside0.mk (hi); clear HB; clear HI188; have HO191 := n0_; have HB := n1_; have HI188 := n2_; clear n0_ n1_ n2_; (try clear hb); (try clear hb2); (try clear hk); (try clear hi); (try clear ho0); obtain ⟨Ao10, co10, eo10⟩ := Kd.R_slice HO191.out; subst eo10) | ((with_reducible refine gate_callee (f := 8) rfl ?_); refine goesL_ (some 16) rfl rfl Try.func8 (by kernel_rfl) rfl #[.slice Ao10 t189.length co10] rfl (by (try simp only [List.map_toArray, List.map_cons, List.map_nil]); first | done | rfl | (simp only [List.length_drop, List.length_take]; rfl)) ?_; (with_reducible refine (packet_Encode.calls k _ _ t189 t193 t194 _ ?side1 ?side2 A6.out).mono ?_); (case side1 => repeat (first | exact (Kd.R_reads' HO191.out).2.2 | (with_reducible refine Kd.C_alloc ?_ _) | (with_reducible refine Kd.C_drewN ?_ _) | (with_reducible refine Kd.C_drew ?_))); (case side2 => exact (Kd.R_reads' HO191.out).2.1); rintro e w11 ⟨v195, rfl, ho0, hb⟩; refine ⟨_, rfl, ?_⟩; have n0_ := Aside0.mk (Kd.R_below (by (with_reducible repeat (first | apply Kd.R_alloc | apply Kd.R_drewN | apply Kd.R_drew)); exact HO191.out) hb); have n1_ := Aside0.mk (Kd.R_lower ho0 (below_size (by repeat (first | (with_reducible first | exact HB.out | apply below_alloc | apply pw_below_drewN | apply below_drew1 | refine below_set ?_ (IsS56.ge HI188.out)) | exact HB.out)))); have n2_ := Aside0.mk (IsS56.below (by repeat (first | (with_reducible first | exact HI188.out | apply IsS56.alloc | apply IsS56.drewN | apply IsS56.drew | apply IsS56.set_1) | exact HI188.out)) hb); have n3_ := Aside0.mk (below_step (by repeat (first | (with_reducible first | exact HB.out | apply below_alloc | apply pw_below_drewN | apply below_drew1 | refine below_set ?_ (IsS56.ge HI188.out)) | exact HB.out)) hb); clear HO191; clear HI188; clear HB; have HO191 := n0_; have HO196 := n1_; have HI188 := n2_; have HB := n3_; clear n0_ n1_ n2_ n3_; (try clear hb); (try clear hb2); (try clear hk); (try clear hi); (try clear ho0)))
  (try simp only [Act.put, List.setIfInBounds_toArray, List.set_cons_zero, List.set_cons_succ])
  go_cut [25] (fun v25 wc => ∃ (kq : Nat) (x25_6 : Bool), v25 = .bool x25_6 ∧ Aside0 (shapesearchlaw06_PacketDamage.j0 kq a1 a2 t193 x25_6 = some r) ∧ Aside0 (kq ≤ k) ∧ Aside0 (Kd.R (Kd.int .u8) 5 wc w.heap.size (fun _ => True) v195 t193) ∧ Aside0 (Below w.heap.size w wc))
  case first =>
    have H := HC7.out
    clear HC7
    by_cases c12 : t194 = 0
    · rw [if_pos c12] at H
      have c12b0 : (t194 == 0) = true := beq_iff_eq.mpr c12
      have c12b1 : (t194 != 0) = false := bne_eq_false_iff_eq.mpr c12
      clear c12
      (first | rw [c12b0] | (simp only [i64_w, i32_w]; rw [c12b0]) | skip)
      have H' := Aside0.mk H
      clear H
      obtain ⟨Ao13, co13, eo13⟩ := Kd.R_slice HO196.out
      subst eo13
      go_wp2
      go_meet
      case rel => exact ⟨_, (decide ((t193.length : Int) < 8)), (by first | rfl | (simp; done) | (simp [*]; done)), H', ⟨by first | omega | exact Nat.le_refl _⟩, ⟨by (with_reducible repeat (first | apply Kd.R_alloc | apply Kd.R_drewN | apply Kd.R_drew)); exact HO196.out⟩, ⟨by repeat (first | (with_reducible first | exact HB.out | apply below_alloc | apply pw_below_drewN | apply below_drew1 | refine below_set ?_ (IsS56.ge HI188.out)) | exact HB.out)⟩⟩
    · rw [if_neg c12] at H
      have c12b0 : (t194 == 0) = false := beq_eq_false_iff_ne.mpr c12
      have c12b1 : (t194 != 0) = true := bne_iff_ne.mpr c12
      (first | rw [c12b0] | (simp only [i64_w, i32_w]; rw [c12b0]) | skip)
      have H' := Aside0.mk H
      clear H
      go_wp2
      go_meet
      case rel => exact ⟨_, (true), (by first | rfl | (simp; done) | (simp [*]; done)), H', ⟨by first | omega | exact Nat.le_refl _⟩, ⟨by (with_reducible repeat (first | apply Kd.R_alloc | apply Kd.R_drewN | apply Kd.R_drew)); exact HO196.out⟩, ⟨by repeat (first | (with_reducible first | exact HB.out | apply below_alloc | apply pw_below_drewN | apply below_drew1 | refine below_set ?_ (IsS56.ge HI188.out)) | exact HB.out)⟩⟩
  case rest =>
    clear HC7
    try clear c1
    try clear p2
    try clear c7
    try clear c8
    try clear c11
    try clear c12
    try clear c12b0
    try clear c12b1
    obtain ⟨kq, x25_6, rfl, HA, HJ6, HO_7, HB⟩ := hcut
    cases kq with
    | zero => exact absurd HA.out (by simp [shapesearchlaw06_PacketDamage.j0])
    | succ kj6 =>
      have H := HA.out
      clear HA
      simp only [shapesearchlaw06_PacketDamage.j0] at H
      by_cases c14 : x25_6 = true
      · subst c14
        have H1 : (some false) = some r := by rw [if_pos rfl] at H; exact H
        clear H
        have H := H1
        clear H1
        obtain rfl := Option.some.inj H
        go_wp2
        go_ret
        exact ⟨by first | rfl | (simp [errW_none, errW_some] <;> rfl) | (simp [*, errW_none, errW_some] <;> rfl), by repeat (first | (with_reducible first | exact HB.out | apply below_alloc | apply pw_below_drewN | apply below_drew1) | exact HB.out)⟩
      · replace c14 := Bool.eq_false_iff.mpr c14
        subst c14
        have H1 : ((some (([] : List Int) : List Int)).bind fun y197 => (if y197.length + t193.length < 140737488355328 then ((some (y197 ++ t193 : List Int)).bind fun y200 => ((shapesearchkeep_Mod.f a1 (y200.length : Int)).bind fun t203 => (if 0 ≤ t203 then (if t203 < (y200.length : Int) then ((packet_Decode.f kj6 (y200.set (t203 : Int).toNat (Go.bits .xor .u8 (rd y200 t203) (mx a2 1)))).bind fun bt206 => (if bt206.2 = 0 then (some false) else ((shapesearchlaw06_awake.f kj6).bind fun t210 => (some t210)))) else (none)) else (none)))) else (none))) = some r := by rw [if_neg (show ¬ (false = true) by decide)] at H; exact H
        clear H
        have H := H1
        clear H1
        obtain ⟨y197, hy197⟩ : ∃ y_ : List Int, y_ = (([] : List Int)) := ⟨_, rfl⟩
        replace H : (if y197.length + t193.length < 140737488355328 then ((some (y197 ++ t193 : List Int)).bind fun y200 => ((shapesearchkeep_Mod.f a1 (y200.length : Int)).bind fun t203 => (if 0 ≤ t203 then (if t203 < (y200.length : Int) then ((packet_Decode.f kj6 (y200.set (t203 : Int).toNat (Go.bits .xor .u8 (rd y200 t203) (mx a2 1)))).bind fun bt206 => (if bt206.2 = 0 then (some false) else ((shapesearchlaw06_awake.f kj6).bind fun t210 => (some t210)))) else (none)) else (none)))) else (none)) = some r := by first | (rw [hy197]; with_reducible exact H) | (have H2_ := (Option.bind_some _ _).symm.trans H; rw [hy197]; with_reducible exact H2_) | (have H2_ := (Option.bind_some _ _).symm.trans H; with_reducible exact H2_) | with_reducible exact H | (rw [hy197]; exact H) | exact H
        have Ny197 := Aside0.mk hy197
        clear hy197
        by_cases c15 : y197.length + t193.length < 140737488355328
        · rw [if_pos c15] at H
          have LMc15 := Aside0.mk c15
          clear c15
          obtain ⟨y200, hy200⟩ : ∃ y_ : List Int, y_ = (y197 ++ t193) := ⟨_, rfl⟩
          replace H : ((shapesearchkeep_Mod.f a1 (y200.length : Int)).bind fun t203 => (if 0 ≤ t203 then (if t203 < (y200.length : Int) then ((packet_Decode.f kj6 (y200.set (t203 : Int).toNat (Go.bits .xor .u8 (rd y200 t203) (mx a2 1)))).bind fun bt206 => (if bt206.2 = 0 then (some false) else ((shapesearchlaw06_awake.f kj6).bind fun t210 => (some t210)))) else (none)) else (none))) = some r := by first | (rw [hy200]; with_reducible exact H) | (have H2_ := (Option.bind_some _ _).symm.trans H; rw [hy200]; with_reducible exact H2_) | (have H2_ := (Option.bind_some _ _).symm.trans H; with_reducible exact H2_) | with_reducible exact H | (rw [hy200]; exact H) | exact H
          have Ny200 := Aside0.mk hy200
          clear hy200
          replace H := Option.bind_eq_some_iff.mp H
          obtain ⟨t203, A160, H⟩ := H
          replace H : (if 0 ≤ t203 then (if t203 < (y200.length : Int) then ((packet_Decode.f kj6 (y200.set (t203 : Int).toNat (Go.bits .xor .u8 (rd y200 t203) (mx a2 1)))).bind fun bt206 => (if bt206.2 = 0 then (some false) else ((shapesearchlaw06_awake.f kj6).bind fun t210 => (some t210)))) else (none)) else (none)) = some r := H
          have A16 := Aside0.mk A160
          clear A160
          by_cases c17 : 0 ≤ t203
          · rw [if_pos c17] at H
            have c17b0 : decide (0 ≤ t203) = true := decide_eq_true c17
            clear c17
            by_cases c18 : t203 < (y200.length : Int)
            · rw [if_pos c18] at H
              have c18b0 : decide (t203 < (y200.length : Int)) = true := decide_eq_true c18
              clear c18
              obtain ⟨ji19, hji19⟩ : ∃ j_ : Int, (mx a2 1) = j_ := ⟨_, rfl⟩
              replace H : ((packet_Decode.f kj6 (y200.set (t203 : Int).toNat (Go.bits .xor .u8 (rd y200 t203) (ji19)))).bind fun bt206 => (if bt206.2 = 0 then (some false) else ((shapesearchlaw06_awake.f kj6).bind fun t210 => (some t210)))) = some r := by first | (rw [hji19] at H; exact H) | (simp only [hji19] at H ⊢; exact H)
              (try rw [hji19] at A16)
              have hji19_ : (if a2 < 1 then 1 else a2) = ji19 := hji19
              obtain ⟨y205, hy205⟩ : ∃ y_ : List Int, y_ = (y200.set (t203 : Int).toNat (Go.bits .xor .u8 (rd y200 t203) (ji19))) := ⟨_, rfl⟩
              replace H : ((packet_Decode.f kj6 y205).bind fun bt206 => (if bt206.2 = 0 then (some false) else ((shapesearchlaw06_awake.f kj6).bind fun t210 => (some t210)))) = some r := by first | (rw [hy205]; with_reducible exact H) | (have H2_ := (Option.bind_some _ _).symm.trans H; rw [hy205]; with_reducible exact H2_) | (have H2_ := (Option.bind_some _ _).symm.trans H; with_reducible exact H2_) | with_reducible exact H | (rw [hy205]; exact H) | exact H
              have Ny205 := Aside0.mk hy205
              clear hy205
              replace H := Option.bind_eq_some_iff.mp H
              obtain ⟨⟨t206, t207⟩, A210, H⟩ := H
              replace H : (if t207 = 0 then (some false) else ((shapesearchlaw06_awake.f kj6).bind fun t210 => (some t210))) = some r := H
              have A21 := Aside0.mk A210
              clear A210
              by_cases c22 : t207 = 0
              · rw [if_pos c22] at H
                have c22b0 : (t207 == 0) = true := beq_iff_eq.mpr c22
                have c22b1 : (t207 != 0) = false := bne_eq_false_iff_eq.mpr c22
                clear c22
                obtain rfl := Option.some.inj H
                go_wp2_with (first | ((with_reducible refine gate_dst (N := 26) rfl ?_); (try (refine gate_guard (by rfl) ?_; dsimp only)); refine Kd.R_lit (Kd.int .u8) _ 5 ?hg (N := 26) ?hd (xs := ([] : List Int)) (inner := []) (ok := fun _ => True) (okp := fun _ => True) ?hr ?hp (fun _ hk => hk) trivial (Below.refl _ _) (Nat.le_refl _) (by simp) ?_; (case hd => rfl); (case hg => rfl); (case hr => first | (go_simp; done) | (go_simp; rfl)); (case hp => exact (Reps.none _ _)); intro v198 w23 ho24 hb hg_ hnew_; clear hg_ hnew_; (first | rw [← Ny197.out] at ho24 | (simp only [Int.reduceToNat] at ho24; rw [← Ny197.out] at ho24)); have n0_ := Aside0.mk (Kd.R_elder' (by (with_reducible repeat (first | apply Kd.R_alloc | apply Kd.R_drewN | apply Kd.R_drew)); exact HO_7.out) (Kd.R_base ho24) hb); have n1_ := Aside0.mk (Kd.R_lower (Kd.R_new' ho24 (Kd.R_lt (by (with_reducible repeat (first | apply Kd.R_alloc | apply Kd.R_drewN | apply Kd.R_drew)); exact HO_7.out))) (below_size (by repeat (first | (with_reducible first | exact HB.out | apply below_alloc | apply pw_below_drewN | apply below_drew1) | exact HB.out)))); have n2_ := Aside0.mk (below_step (by repeat (first | (with_reducible first | exact HB.out | apply below_alloc | apply pw_below_drewN | apply below_drew1) | exact HB.out)) hb); clear HO_7; clear HB; have HO_7 := n0_; have HO199 := n1_; have HB := n2_; clear n0_ n1_ n2_; clear hb ho24; obtain ⟨Ao26, co26, eo26⟩ := Kd.R_slice HO_7.out; subst eo26) | ((with_reducible refine gate_builtin (b := .append) (xs := #[.tmp 26, .tmp 27]) rfl ?_); (try (refine gate_guard (by rfl) ?_; dsimp only)); at_builtin; refine Kd.R_append_rows (Kd.int .u8) (w0 := w) w.heap.size rfl (.tmp 26) (.tmp 27) 26 5 (.int .u8 0) 1 rfl Try.underlying26 info5 rfl (by decide) (by omega) v198 y197 t193 _ _ _ (fun k_ => some k_ ≠ (.slice Ao26 t193.length co26 : Value).ownBlock) (fun _ => False) rfl rfl ?aO ?aR (fun _ _ h => h) (fun _ h => h.elim) ?aF ?aB ?aS ?aL ?_; (case aR => repeat (first | exact (Kd.R_reads' HO_7.out).2.2 | (with_reducible refine Kd.C_alloc ?_ _) | (with_reducible refine Kd.C_drewN ?_ _) | (with_reducible refine Kd.C_drew ?_))); (case aB => exact (by repeat (first | (with_reducible first | exact HB.out | apply below_alloc | apply pw_below_drewN | apply below_drew1) | exact HB.out))); (case aF => exact (fun k_ hk => Kd.fresh' (Kd.R_lt (by (with_reducible repeat (first | apply Kd.R_alloc | apply Kd.R_drewN | apply Kd.R_drew)); exact HO_7.out)) k_ hk)); (case aO => exact (by (with_reducible repeat (first | apply Kd.R_alloc | apply Kd.R_drewN | apply Kd.R_drew)); exact Kd.R_mono HO199.out (fun _ hk => hk.2))); (case aS => exact (below_size (by repeat (first | (with_reducible first | exact HB.out | apply below_alloc | apply pw_below_drewN | apply below_drew1) | exact HB.out)))); (case aL => have := LMc15.out; omega); intro v201 w25 ho hb hg hat; rw [← Ny200.out] at ho; have n0_ := Aside0.mk (Kd.R_after (ok := (fun _ => True)) (by (with_reducible repeat (first | apply Kd.R_alloc | apply Kd.R_drewN | apply Kd.R_drew)); first | exact HO_7.out | exact Kd.R_mono HO_7.out (fun _ h_ => ⟨trivial, h_⟩)) hg hat); have n1_ := Aside0.mk (hb); have n2_ := Aside0.mk (ho); clear HO_7; clear HB; clear HO199; have HO_7 := n0_; have HB := n1_; have HO202 := n2_; clear n0_ n1_ n2_; clear ho hb hg hat; obtain ⟨Ao27, co27, eo27⟩ := Kd.R_slice HO202.out; subst eo27) | ((with_reducible refine gate_callee (f := 22) rfl ?_); refine goesL_ (some 33) rfl rfl Try.func22 (by kernel_rfl) rfl #[.int .i64 a1, .int .i64 (y200.length : Int)] rfl (by (try simp only [List.map_toArray, List.map_cons, List.map_nil]); first | done | rfl | (simp only [List.length_drop, List.length_take]; rfl)) ?_; (with_reducible refine (shapesearchkeep_Mod.calls a1 (y200.length : Int) t203 _ A16.out).mono ?_); rintro e w' ⟨rfl, ⟨nd, rfl⟩⟩; refine ⟨_, rfl, ?_⟩; (try (rw [drewN_self w25]; generalize hq_ : World.drewN w25 _ = w25; have n0_ : Aside0 (Kd.R (Kd.int .u8) 5 w25 w.heap.size (fun k_ => some k_ ≠ (.slice Ao26 t193.length co26 : Value).ownBlock) (.slice Ao27 y200.length co27) y200) := ⟨by rw [← hq_]; exact (by (with_reducible repeat (first | apply Kd.R_alloc | apply Kd.R_drewN | apply Kd.R_drew)); exact HO202.out)⟩; have n1_ : Aside0 (Kd.R (Kd.int .u8) 5 w25 w.heap.size (fun k_ => some k_ ≠ (.slice Ao27 y200.length co27 : Value).ownBlock) (.slice Ao26 t193.length co26) t193) := ⟨by rw [← hq_]; exact (by (with_reducible repeat (first | apply Kd.R_alloc | apply Kd.R_drewN | apply Kd.R_drew)); exact Kd.R_mono HO_7.out (fun _ hk => hk.2))⟩; have n2_ : Aside0 (Below w.heap.size w w25) := ⟨by rw [← hq_]; exact (by repeat (first | (with_reducible first | exact HB.out | apply below_alloc | apply pw_below_drewN | apply below_drew1) | exact HB.out))⟩; clear HO202 HO_7 HB hq_; have HO202 := n0_; have HO_7 := n1_; have HB := n2_; clear n0_ n1_ n2_)); have p204 : 0 ≤ (t203 : Int) := of_decide_eq_true (by first | (with_reducible assumption) | assumption); have q204 : t203 < (y200.length : Int) := of_decide_eq_true (by first | (with_reducible assumption) | assumption); obtain ⟨ad204, e204, hx204_0⟩ := Kd.at_int (Kd.R_reads' HO202.out).2.2 t203 p204 q204; cases e204; replace p204 := eq_true p204; replace q204 := eq_true q204; have p20 : 0 ≤ (t203 : Int) := of_decide_eq_true (by first | (with_reducible assumption) | assumption); have q20 : (t203 : Int) < ((y200.length : Int) : Int) := of_decide_eq_true (by first | (with_reducible assumption) | assumption); obtain ⟨go20, co20, eo20, gb20, gl20, cl20, HG20⟩ := Kd.R_form HO202.out (by omega); (first | cases eo20 | (injection eo20 with ea_ en_ ec_; (first | subst ea_ | (injection ea_ with ea_; subst ea_)); subst ec_; clear en_)); have GB20 := Aside0.mk gb20; have GG20 := Aside0.mk HG20; clear gb20 gl20 HG20; (first | simp only [add_plain] at hx204_0 | skip); obtain ⟨hx20_0, hf20_0⟩ := Kd.R_celln 0 HO202.out (t203 : Int) p20 q20; replace p20 := eq_true p20; replace q20 := eq_true q20; obtain ⟨hy28_, hz28_⟩ := Kd.R_celln 0 HO202.out (t203 : Int) (of_decide_eq_true (by first | (with_reducible assumption) | assumption)) (of_decide_eq_true (by first | (with_reducible assumption) | assumption)); have HP28 := Kd.R_putg HO202.out (t203 : Int) (Go.bits .xor .u8 (rd y200 t203) (ji19))) | ((with_reducible refine gate_store (t := 5) (p := 39) rfl ?_); refine store_event (t := 5) (p := 39) (v := ?vo_w29) (w1 := (w25.setCell ⟨go20, (t203 : Int).toNat, none⟩ (.int .u8 (Go.bits .xor .u8 (rd y200 t203) (ji19))))) ?hg ?ho ?hn ?hr ?_; (case ho => rfl); (case hg => rfl); (case hn => rfl); (case hr => first | (go_simp; done) | (go_simp; rfl)); intro w29 hw; have hg : w25.grownBy w29 (some go20) := (by rw [hw]; exact HP28.2); have hp_ : Kd.R (Kd.int .u8) 5 w29 w.heap.size (fun k_ => some k_ ≠ (.slice Ao26 t193.length co26 : Value).ownBlock) (.slice (some ⟨go20, 0, none⟩) y200.length co27) y205 := (by rw [hw, Ny205.out]; exact HP28.1); clear HP28; have n0_ := Aside0.mk (Kd.R_after (v := (.slice (some ⟨go20, 0, none⟩) y200.length co27)) (v1 := (.slice (some ⟨go20, 0, none⟩) y200.length co27)) (ok := (fun _ => True)) (by (with_reducible repeat (first | apply Kd.R_alloc | apply Kd.R_drewN | apply Kd.R_drew)); first | exact HO_7.out | exact Kd.R_mono HO_7.out (fun _ h_ => ⟨trivial, h_⟩)) hg (.inl rfl)); have n1_ := Aside0.mk (hp_); have n2_ := Aside0.mk ((by rw [hw]; exact below_set (HB.out) GB20.out : Below w.heap.size w w29)); clear HO_7; clear HO202; clear HB; have HO_7 := n0_; have HO202 := n1_; have HB := n2_; clear n0_ n1_ n2_; clear hg hw hp_) | ((with_reducible refine gate_callee (f := 20) rfl ?_); refine goesL_ (some 42) rfl rfl Try.func20 (by kernel_rfl) rfl #[.slice (some ⟨go20, 0, none⟩) y205.length co27] rfl (by (try simp only [List.map_toArray, List.map_cons, List.map_nil]); first | done | (rw [show y205.length = y200.length from (Kd.R_reads' HO202.out).1.symm] <;> rfl) | rfl | (simp only [List.length_drop, List.length_take]; rfl)) ?_; (with_reducible refine (packet_Decode.calls kj6 _ _ y205 t206 t207 _ ?side1 ?side2 A21.out).mono ?_); (case side1 => repeat (first | exact (Kd.R_reads' HO202.out).2.2 | (with_reducible refine Kd.C_alloc ?_ _) | (with_reducible refine Kd.C_drewN ?_ _) | (with_reducible refine Kd.C_drew ?_))); (case side2 => rw [show y205.length = y200.length from (Kd.R_reads' HO202.out).1.symm]; exact (Kd.R_reads' HO202.out).2.1); rintro e w30 ⟨v208, rfl, ho0, hb⟩; refine ⟨_, rfl, ?_⟩; have n0_ := Aside0.mk (Kd.R_below (by (with_reducible repeat (first | apply Kd.R_alloc | apply Kd.R_drewN | apply Kd.R_drew)); exact HO_7.out) hb); have n1_ := Aside0.mk (Kd.R_below (by (with_reducible repeat (first | apply Kd.R_alloc | apply Kd.R_drewN | apply Kd.R_drew)); exact HO202.out) hb); have n2_ := Aside0.mk (Kd.R_lower ho0 (below_size (by repeat (first | (with_reducible first | exact HB.out | apply below_alloc | apply pw_below_drewN | apply below_drew1) | exact HB.out)))); have n3_ := Aside0.mk (below_step (by repeat (first | (with_reducible first | exact HB.out | apply below_alloc | apply pw_below_drewN | apply below_drew1) | exact HB.out)) hb); clear HO_7; clear HO202; clear HB; have HO_7 := n0_; have HO202 := n1_; have HO209 := n2_; have HB := n3_; clear n0_ n1_ n2_ n3_; (try clear hb); (try clear hb2); (try clear hk); (try clear hi); (try clear ho0)))
                go_ret
                exact ⟨by first | rfl | (simp [errW_none, errW_some] <;> rfl) | (simp only [← hji19]; first | rfl | (simp [errW_none, errW_some] <;> rfl)) | (simp [*, errW_none, errW_some] <;> rfl), by repeat (first | (with_reducible first | exact HB.out | apply below_alloc | apply pw_below_drewN | apply below_drew1) | exact HB.out)⟩
              · rw [if_neg c22] at H
                have c22b0 : (t207 == 0) = false := beq_eq_false_iff_ne.mpr c22
                have c22b1 : (t207 != 0) = true := bne_iff_ne.mpr c22
                replace H := Option.bind_eq_some_iff.mp H
                obtain ⟨t210, A310, H⟩ := H
                replace H : (some t210) = some r := H
                have A31 := Aside0.mk A310
                clear A310
                obtain rfl := Option.some.inj H
                go_wp2_with (first | ((with_reducible refine gate_dst (N := 26) rfl ?_); (try (refine gate_guard (by rfl) ?_; dsimp only)); refine Kd.R_lit (Kd.int .u8) _ 5 ?hg (N := 26) ?hd (xs := ([] : List Int)) (inner := []) (ok := fun _ => True) (okp := fun _ => True) ?hr ?hp (fun _ hk => hk) trivial (Below.refl _ _) (Nat.le_refl _) (by simp) ?_; (case hd => rfl); (case hg => rfl); (case hr => first | (go_simp; done) | (go_simp; rfl)); (case hp => exact (Reps.none _ _)); intro v198 w32 ho33 hb hg_ hnew_; clear hg_ hnew_; (first | rw [← Ny197.out] at ho33 | (simp only [Int.reduceToNat] at ho33; rw [← Ny197.out] at ho33)); have n0_ := Aside0.mk (Kd.R_elder' (by (with_reducible repeat (first | apply Kd.R_alloc | apply Kd.R_drewN | apply Kd.R_drew)); exact HO_7.out) (Kd.R_base ho33) hb); have n1_ := Aside0.mk (Kd.R_lower (Kd.R_new' ho33 (Kd.R_lt (by (with_reducible repeat (first | apply Kd.R_alloc | apply Kd.R_drewN | apply Kd.R_drew)); exact HO_7.out))) (below_size (by repeat (first | (with_reducible first | exact HB.out | apply below_alloc | apply pw_below_drewN | apply below_drew1) | exact HB.out)))); have n2_ := Aside0.mk (below_step (by repeat (first | (with_reducible first | exact HB.out | apply below_alloc | apply pw_below_drewN | apply below_drew1) | exact HB.out)) hb); clear HO_7; clear HB; have HO_7 := n0_; have HO199 := n1_; have HB := n2_; clear n0_ n1_ n2_; clear hb ho33; obtain ⟨Ao35, co35, eo35⟩ := Kd.R_slice HO_7.out; subst eo35) | ((with_reducible refine gate_builtin (b := .append) (xs := #[.tmp 26, .tmp 27]) rfl ?_); (try (refine gate_guard (by rfl) ?_; dsimp only)); at_builtin; refine Kd.R_append_rows (Kd.int .u8) (w0 := w) w.heap.size rfl (.tmp 26) (.tmp 27) 26 5 (.int .u8 0) 1 rfl Try.underlying26 info5 rfl (by decide) (by omega) v198 y197 t193 _ _ _ (fun k_ => some k_ ≠ (.slice Ao35 t193.length co35 : Value).ownBlock) (fun _ => False) rfl rfl ?aO ?aR (fun _ _ h => h) (fun _ h => h.elim) ?aF ?aB ?aS ?aL ?_; (case aR => repeat (first | exact (Kd.R_reads' HO_7.out).2.2 | (with_reducible refine Kd.C_alloc ?_ _) | (with_reducible refine Kd.C_drewN ?_ _) | (with_reducible refine Kd.C_drew ?_))); (case aB => exact (by repeat (first | (with_reducible first | exact HB.out | apply below_alloc | apply pw_below_drewN | apply below_drew1) | exact HB.out))); (case aF => exact (fun k_ hk => Kd.fresh' (Kd.R_lt (by (with_reducible repeat (first | apply Kd.R_alloc | apply Kd.R_drewN | apply Kd.R_drew)); exact HO_7.out)) k_ hk)); (case aO => exact (by (with_reducible repeat (first | apply Kd.R_alloc | apply Kd.R_drewN | apply Kd.R_drew)); exact Kd.R_mono HO199.out (fun _ hk => hk.2))); (case aS => exact (below_size (by repeat (first | (with_reducible first | exact HB.out | apply below_alloc | apply pw_below_drewN | apply below_drew1) | exact HB.out)))); (case aL => have := LMc15.out; omega); intro v201 w34 ho hb hg hat; rw [← Ny200.out] at ho; have n0_ := Aside0.mk (Kd.R_after (ok := (fun _ => True)) (by (with_reducible repeat (first | apply Kd.R_alloc | apply Kd.R_drewN | apply Kd.R_drew)); first | exact HO_7.out | exact Kd.R_mono HO_7.out (fun _ h_ => ⟨trivial, h_⟩)) hg hat); have n1_ := Aside0.mk (hb); have n2_ := Aside0.mk (ho); clear HO_7; clear HB; clear HO199; have HO_7 := n0_; have HB := n1_; have HO202 := n2_; clear n0_ n1_ n2_; clear ho hb hg hat; obtain ⟨Ao36, co36, eo36⟩ := Kd.R_slice HO202.out; subst eo36) | ((with_reducible refine gate_callee (f := 22) rfl ?_); refine goesL_ (some 33) rfl rfl Try.func22 (by kernel_rfl) rfl #[.int .i64 a1, .int .i64 (y200.length : Int)] rfl (by (try simp only [List.map_toArray, List.map_cons, List.map_nil]); first | done | rfl | (simp only [List.length_drop, List.length_take]; rfl)) ?_; (with_reducible refine (shapesearchkeep_Mod.calls a1 (y200.length : Int) t203 _ A16.out).mono ?_); rintro e w' ⟨rfl, ⟨nd, rfl⟩⟩; refine ⟨_, rfl, ?_⟩; (try (rw [drewN_self w34]; generalize hq_ : World.drewN w34 _ = w34; have n0_ : Aside0 (Kd.R (Kd.int .u8) 5 w34 w.heap.size (fun k_ => some k_ ≠ (.slice Ao35 t193.length co35 : Value).ownBlock) (.slice Ao36 y200.length co36) y200) := ⟨by rw [← hq_]; exact (by (with_reducible repeat (first | apply Kd.R_alloc | apply Kd.R_drewN | apply Kd.R_drew)); exact HO202.out)⟩; have n1_ : Aside0 (Kd.R (Kd.int .u8) 5 w34 w.heap.size (fun k_ => some k_ ≠ (.slice Ao36 y200.length co36 : Value).ownBlock) (.slice Ao35 t193.length co35) t193) := ⟨by rw [← hq_]; exact (by (with_reducible repeat (first | apply Kd.R_alloc | apply Kd.R_drewN | apply Kd.R_drew)); exact Kd.R_mono HO_7.out (fun _ hk => hk.2))⟩; have n2_ : Aside0 (Below w.heap.size w w34) := ⟨by rw [← hq_]; exact (by repeat (first | (with_reducible first | exact HB.out | apply below_alloc | apply pw_below_drewN | apply below_drew1) | exact HB.out))⟩; clear HO202 HO_7 HB hq_; have HO202 := n0_; have HO_7 := n1_; have HB := n2_; clear n0_ n1_ n2_)); have p204 : 0 ≤ (t203 : Int) := of_decide_eq_true (by first | (with_reducible assumption) | assumption); have q204 : t203 < (y200.length : Int) := of_decide_eq_true (by first | (with_reducible assumption) | assumption); obtain ⟨ad204, e204, hx204_0⟩ := Kd.at_int (Kd.R_reads' HO202.out).2.2 t203 p204 q204; cases e204; replace p204 := eq_true p204; replace q204 := eq_true q204; have p20 : 0 ≤ (t203 : Int) := of_decide_eq_true (by first | (with_reducible assumption) | assumption); have q20 : (t203 : Int) < ((y200.length : Int) : Int) := of_decide_eq_true (by first | (with_reducible assumption) | assumption); obtain ⟨go20, co20, eo20, gb20, gl20, cl20, HG20⟩ := Kd.R_form HO202.out (by omega); (first | cases eo20 | (injection eo20 with ea_ en_ ec_; (first | subst ea_ | (injection ea_ with ea_; subst ea_)); subst ec_; clear en_)); have GB20 := Aside0.mk gb20; have GG20 := Aside0.mk HG20; clear gb20 gl20 HG20; (first | simp only [add_plain] at hx204_0 | skip); obtain ⟨hx20_0, hf20_0⟩ := Kd.R_celln 0 HO202.out (t203 : Int) p20 q20; replace p20 := eq_true p20; replace q20 := eq_true q20; obtain ⟨hy37_, hz37_⟩ := Kd.R_celln 0 HO202.out (t203 : Int) (of_decide_eq_true (by first | (with_reducible assumption) | assumption)) (of_decide_eq_true (by first | (with_reducible assumption) | assumption)); have HP37 := Kd.R_putg HO202.out (t203 : Int) (Go.bits .xor .u8 (rd y200 t203) (ji19))) | ((with_reducible refine gate_store (t := 5) (p := 39) rfl ?_); refine store_event (t := 5) (p := 39) (v := ?vo_w38) (w1 := (w34.setCell ⟨go20, (t203 : Int).toNat, none⟩ (.int .u8 (Go.bits .xor .u8 (rd y200 t203) (ji19))))) ?hg ?ho ?hn ?hr ?_; (case ho => rfl); (case hg => rfl); (case hn => rfl); (case hr => first | (go_simp; done) | (go_simp; rfl)); intro w38 hw; have hg : w34.grownBy w38 (some go20) := (by rw [hw]; exact HP37.2); have hp_ : Kd.R (Kd.int .u8) 5 w38 w.heap.size (fun k_ => some k_ ≠ (.slice Ao35 t193.length co35 : Value).ownBlock) (.slice (some ⟨go20, 0, none⟩) y200.length co36) y205 := (by rw [hw, Ny205.out]; exact HP37.1); clear HP37; have n0_ := Aside0.mk (Kd.R_after (v := (.slice (some ⟨go20, 0, none⟩) y200.length co36)) (v1 := (.slice (some ⟨go20, 0, none⟩) y200.length co36)) (ok := (fun _ => True)) (by (with_reducible repeat (first | apply Kd.R_alloc | apply Kd.R_drewN | apply Kd.R_drew)); first | exact HO_7.out | exact Kd.R_mono HO_7.out (fun _ h_ => ⟨trivial, h_⟩)) hg (.inl rfl)); have n1_ := Aside0.mk (hp_); have n2_ := Aside0.mk ((by rw [hw]; exact below_set (HB.out) GB20.out : Below w.heap.size w w38)); clear HO_7; clear HO202; clear HB; have HO_7 := n0_; have HO202 := n1_; have HB := n2_; clear n0_ n1_ n2_; clear hg hw hp_) | ((with_reducible refine gate_callee (f := 20) rfl ?_); refine goesL_ (some 42) rfl rfl Try.func20 (by kernel_rfl) rfl #[.slice (some ⟨go20, 0, none⟩) y205.length co36] rfl (by (try simp only [List.map_toArray, List.map_cons, List.map_nil]); first | done | (rw [show y205.length = y200.length from (Kd.R_reads' HO202.out).1.symm] <;> rfl) | rfl | (simp only [List.length_drop, List.length_take]; rfl)) ?_; (with_reducible refine (packet_Decode.calls kj6 _ _ y205 t206 t207 _ ?side1 ?side2 A21.out).mono ?_); (case side1 => repeat (first | exact (Kd.R_reads' HO202.out).2.2 | (with_reducible refine Kd.C_alloc ?_ _) | (with_reducible refine Kd.C_drewN ?_ _) | (with_reducible refine Kd.C_drew ?_))); (case side2 => rw [show y205.length = y200.length from (Kd.R_reads' HO202.out).1.symm]; exact (Kd.R_reads' HO202.out).2.1); rintro e w39 ⟨v208, rfl, ho0, hb⟩; refine ⟨_, rfl, ?_⟩; have n0_ := Aside0.mk (Kd.R_below (by (with_reducible repeat (first | apply Kd.R_alloc | apply Kd.R_drewN | apply Kd.R_drew)); exact HO_7.out) hb); have n1_ := Aside0.mk (Kd.R_below (by (with_reducible repeat (first | apply Kd.R_alloc | apply Kd.R_drewN | apply Kd.R_drew)); exact HO202.out) hb); have n2_ := Aside0.mk (Kd.R_lower ho0 (below_size (by repeat (first | (with_reducible first | exact HB.out | apply below_alloc | apply pw_below_drewN | apply below_drew1) | exact HB.out)))); have n3_ := Aside0.mk (below_step (by repeat (first | (with_reducible first | exact HB.out | apply below_alloc | apply pw_below_drewN | apply below_drew1) | exact HB.out)) hb); clear HO_7; clear HO202; clear HB; have HO_7 := n0_; have HO202 := n1_; have HO209 := n2_; have HB := n3_; clear n0_ n1_ n2_ n3_; (try clear hb); (try clear hb2); (try clear hk); (try clear hi); (try clear ho0)) | (go_at_call 9; (with_reducible refine (shapesearchlaw06_awake.calls kj6  t210 _ A31.out).mono ?_); rintro e w40 ⟨rfl, hb⟩; have n0_ := Aside0.mk (Kd.R_below (by (with_reducible repeat (first | apply Kd.R_alloc | apply Kd.R_drewN | apply Kd.R_drew)); exact HO_7.out) hb); have n1_ := Aside0.mk (Kd.R_below (by (with_reducible repeat (first | apply Kd.R_alloc | apply Kd.R_drewN | apply Kd.R_drew)); exact HO202.out) hb); have n2_ := Aside0.mk (Kd.R_below (by (with_reducible repeat (first | apply Kd.R_alloc | apply Kd.R_drewN | apply Kd.R_drew)); exact HO209.out) hb); have n3_ := Aside0.mk (below_step (by repeat (first | (with_reducible first | exact HB.out | apply below_alloc | apply pw_below_drewN | apply below_drew1) | exact HB.out)) hb); clear HO_7; clear HO202; clear HO209; clear HB; have HO_7 := n0_; have HO202 := n1_; have HO209 := n2_; have HB := n3_; clear n0_ n1_ n2_ n3_; (try clear hb); (try clear hb2); (try clear hk); (try clear hi)))
                go_ret
                exact ⟨by first | rfl | (simp [errW_none, errW_some] <;> rfl) | (simp only [← hji19]; first | rfl | (simp [errW_none, errW_some] <;> rfl)) | (simp [*, errW_none, errW_some] <;> rfl), by repeat (first | (with_reducible first | exact HB.out | apply below_alloc | apply pw_below_drewN | apply below_drew1) | exact HB.out)⟩
            · rw [if_neg c18] at H
              exact absurd H (by simp)
          · rw [if_neg c17] at H
            exact absurd H (by simp)
        · rw [if_neg c15] at H
          exact absurd H (by simp)

/-- THE ONE PURE STATEMENT of shapesearchlaw06_PacketDamage: yours. -/
def shapesearchlaw06_PacketDamage.Pure : Prop := ∀ (l0 : List Int) (a1 : Int) (a2 : Int), l0.length ≤ maxLen → l0.length * 8 ≤ 140737488351232 → (∀ x ∈ l0, (Lit.int .i64 x).wf = true) → (Lit.int .i64 a1).wf = true → (Lit.int .u8 a2).wf = true → ∃ k, shapesearchlaw06_PacketDamage.f k l0 a1 a2 = some true
theorem shapesearchlaw06_PacketDamage.walk (P : shapesearchlaw06_PacketDamage.Pure) (a0 : Option Addr) (len0 cap0 : Nat) (z0 : List Int) (a1 : Int) (a2 : Int) (w : World) (w0 : (a0 = none ∧ len0 = 0 ∧ cap0 = 0 ∧ z0 = []) ∨ ∃ x, a0 = some x ∧ len0 ≤ cap0 ∧ cap0 ≤ maxLen ∧ z0.length = cap0 ∧ (∀ i, i < z0.length → w.cell? (x.add i) = some (.int .i64 (z0.getD i 0))) ∧ ∀ n ∈ z0, (Lit.int .i64 n).wf = true) (y0 : len0 * 8 ≤ 140737488351232) (w1 : (Lit.int .i64 a1).wf = true) (w2 : (Lit.int .u8 a2).wf = true) :
    Calls Try.prog 7 #[.slice a0 len0 cap0, .int .i64 a1, .int .u8 a2] w fun e w' => e = .returned (.bool true) ∧ Below w.heap.size w w' := by
  obtain ⟨l0, rfl, hr0, hm0, hw0, hc0⟩ := ReadsInt.ofRowC w0
  obtain ⟨k, h⟩ := P l0 a1 a2 hm0 y0 hw0 w1 w2
  refine (shapesearchlaw06_PacketDamage.calls k _ _ l0 a1 a2 true w (Kd.C_of_reads (d := (0 : Int)) (h1 := fun _ => rfl) hr0) hc0 h).mono ?_
  rintro e w' ⟨rfl, hd⟩
  exact ⟨rfl, hd⟩

end Go.Proofs.Ytgmiilolikbekaa.PPacketDamage
