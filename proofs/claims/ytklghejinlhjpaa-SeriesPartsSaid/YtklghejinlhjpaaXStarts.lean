/- This file proves what series.Starts hands back: the places where so many values in a row begin. -/
import Derived.Test.YtklghejinlhjpaaXRunsB
set_option linter.unusedVariables false
set_option linter.unusedSimpArgs false
namespace Go.Proofs.Ytklghejinlhjpaa.X
open Go.RowKit Go.Shelf Go.Proofs.YtklghejinlhjpaaW.PrintWords Go.Proofs.YtklghejinlhjpaaW.PrintLast Go.Proofs.YtklghejinlhjpaaW.PrintMore

attribute [local go_sem] Oper.semAt_some
attribute [local go_sem] max2_int max_two
set_option maxRecDepth 1000000 in
set_option maxHeartbeats 8000000 in
theorem starts_yes (a0 a1 : Int) (A0 : Option Addr) (c0 : Nat) (ls : List Int) (hls : ls.length ≤ 99999) (m : Int) (hm : 1 ≤ m) (hm' : m ≤ 9223372036854775807) (w : World) (hr0 : Kd.C (Kd.int .i64) w A0 ls.length ls) (hV : Aside0 (ValidAt a0 a1 A0 c0 ls true)) :
    Calls Try.prog 11 #[.agg #[.int .i64 a0, .int .i64 a1, .slice A0 ls.length c0], .int .i64 m] w fun e w' => ∃ v : Value, e = .returned v ∧ w'.ownsRow w.heap.size 3 1 v (startsP m (runsP ls)).length ((startsP m (runsP ls)).map (Value.int .i64)) ∧ Below w.heap.size w w' := by
  have HR := Aside0.mk hr0
  have HL := Aside0.mk hls
  have HM := Aside0.mk hm
  have HM' := Aside0.mk hm'
  clear hls
  obtain ⟨i0, hi0, hz0, hz1, hz2⟩ := info_parts info_int3
  have H0 := Aside0.mk hi0
  have H1 := Aside0.mk hz0
  have H2 := Aside0.mk hz1
  have H3 := Aside0.mk hz2
  have dm : decide (m < 1) = false := decide_eq_false (by omega)
  clear hi0 hz0 hz1 hz2 hr0 hm hm'
  refine (callsIn_wide (n := 6)).1 ?_
  refine callsIn_of_wp_marks Try.func11 rfl trivial ?_ rfl
  simp only [Try.ntmps11, List.size_toArray, List.length_cons, List.length_nil, Nat.reduceAdd, Nat.reduceSub, Array.replicate_succ, Array.replicate_zero, List.push_toArray, List.append_toArray, List.nil_append, List.cons_append]
  gi_wp2_with (first | (refine ⟨trivial, ?_⟩; gi_at_call 24; refine (callsIn_wide.2 (hV.out _ (Kd.C_below HR.out (by repeat (first | exact Below.refl _ _ | apply below_alloc))))).mono ?_; rintro e w1 ⟨rfl, hb1⟩; have HB1 := Aside0.mk (below_step (by repeat (first | exact Below.refl _ _ | apply below_alloc) : Below w.heap.size w ((w.alloc (.cells #[.int .i64 a0, .int .i64 a1, .slice A0 ls.length c0] 24)).alloc (.cells #[.int .i64 m] 3))) hb1); have hbm := blk_below (heap_alloc_new (w.alloc (.cells #[.int .i64 a0, .int .i64 a1, .slice A0 ls.length c0] 24)) (.cells #[.int .i64 m] 3)) hb1; rw [World.size_alloc] at hbm; have hcm : w1.cell? ⟨w.heap.size + 1, 0, none⟩ = some (.int .i64 m) := (blk_cell hbm 0).trans rfl; have hbs := blk_below (blk_alloc (heap_alloc_new w (.cells #[.int .i64 a0, .int .i64 a1, .slice A0 ls.length c0] 24)) (.cells #[.int .i64 m] 3)) hb1; have hc2 : w1.cell? ⟨w.heap.size, 2, none⟩ = some (.slice A0 ls.length c0) := (blk_cell hbs 2).trans rfl; have hz : w.heap.size < w1.heap.size := blk_lt hbs; have hzm : w.heap.size + 1 < w1.heap.size := blk_lt hbm; have HBM := Aside0.mk hbm; clear hb1 hbm hbs) | (refine ⟨trivial, ?_⟩; gi_at_call 35; refine (runs_in _ A0 c0 ls.length _).mono ?_; rintro e w2 ⟨rfl, rfl⟩))
  have bO := (Boxed.new w1 22 (.slice none 0 0)).alloc (.cells #[.slice A0 ls.length c0] 22)
  have bL := Boxed.new (w1.alloc (.cells #[.slice none 0 0] 22)) 22 (.slice A0 ls.length c0)
  rw [World.size_alloc] at bL
  have hB0 : Below w1.heap.size w1 ((w1.alloc (.cells #[.slice none 0 0] 22)).alloc (.cells #[.slice A0 ls.length c0] 22)) := ((Below.refl _ _).alloc (Nat.le_refl _) _).alloc (by simp) _
  have hsz : ((w1.alloc (.cells #[.slice none 0 0] 22)).alloc (.cells #[.slice A0 ls.length c0] 22)).heap.size = w1.heap.size + 2 := by simp
  obtain ⟨W0, hW0⟩ : ∃ W0, (w1.alloc (.cells #[.slice none 0 0] 22)).alloc (.cells #[.slice A0 ls.length c0] 22) = W0 := ⟨_, rfl⟩
  rw [hW0] at bO bL hB0 hsz ⊢
  clear hW0 hc2
  have hw1 := below_size HB1.out
  have hwB : Below w.heap.size w W0 := HB1.out.trans (hB0.mono hw1)
  obtain ⟨g, hg⟩ : ∃ g, w1.heap.size = g := ⟨_, rfl⟩
  rw [hg] at bO bL hB0 hsz hz hzm hw1 ⊢
  refine wpIn_rangeFunc_ownH rfl (by decide) (gf := 46) (lb := #[.pointer (some ⟨g + 1, 0, none⟩)]) rfl trivial (enters_of Try.func46 (by kernel_rfl) rfl)
    (runs_stops _ (by decide) (g + 1) A0 c0 ls HL.out w W0 HR.out bL hwB) kept_t (kept_b (by omega) (by omega)) (Below.refl _ _) (fun _ => rfl)
    (fun pre W => ((∃ v, Boxed W g 22 v ∧ W.ownsRow g 3 1 v (startsP m pre).length ((startsP m pre).map (Value.int .i64)) ∧ True) ∧ Boxed W (g + 1) 22 (.slice A0 ls.length c0)) ∧ Below g w1 W)
    (fun _ _ _ => False)
    (OwnFrom.and (OwnFrom.and (Own.from (holdsRow_own g g 22 3 1 (fun pre => (startsP m pre).length) (fun pre => (startsP m pre).map (Value.int .i64)) (fun _ _ => True)) _) (Own.from (boxed_own _ _ _) _)) (ownFrom_below (by omega) (by omega)))
    (fun _ _ _ _ _ hs _ _ => hs)
    ⟨⟨⟨_, bO, World.ownsRow_nil _ _ _ _, trivial⟩, bL⟩, hB0⟩
    (fun x a' W => ∃ Bx, g + 1 < Bx ∧ W.heap[Bx]? = some (.cells #[.int .i64 (x.1.1 : Int), .int .i64 (x.1.2 : Int)] 43 (0, 0)) ∧ a' = { tmps := #[.agg #[.int .i64 a0, .int .i64 a1, .slice A0 ls.length c0], .int .i64 m, .pointer (some ⟨w.heap.size, 0, none⟩), .pointer (some ⟨w.heap.size + 1, 0, none⟩), .slice none 0 0, .pointer (some ⟨g, 0, none⟩), .pointer (some ⟨Bx, 0, none⟩), undef, .agg #[.int .i64 a0, .int .i64 a1, .slice A0 ls.length c0], .bool true, .bool false, .bool false, .int .i64 m, .bool false, .bool false, .pointer (some ⟨w.heap.size, 2, none⟩), .slice A0 ls.length c0, .func (.func 46) #[] #[.pointer (some ⟨g + 1, 0, none⟩)], .agg #[.int .i64 (x.1.1 : Int), .int .i64 (x.1.2 : Int)], undef, undef, undef, undef, undef, undef, undef, undef, undef, undef, undef, undef, undef, undef, undef, undef, undef, undef], defers := [] })
    (fun x a' _ X Y row hs hg hr => by obtain ⟨Bx, h1, h2, h3⟩ := hs; exact ⟨Bx, h1, cells_own Bx 43 (fun (_ : Unit) => #[.int .i64 (x.1.1 : Int), .int .i64 (x.1.2 : Int)]) () X Y row h2 hg (fun r e => (hr r e).2), h3⟩)
    ?assign ?body ?done ?stop
  case assign =>
    rintro l pre x W K ⟨⟨⟨v, bv, br, _⟩, bL1⟩, hB1⟩ hK
    unfold encRun
    have hs1 := hB1.size
    rw [hg] at hs1
    gi_wp2
    exact hK _ _ ((KeepsOthers.alloc _ _).from _) ⟨(Below.refl _ W).alloc (by omega) _, Below.heap_alloc W _ _ bL1.lt⟩ ⟨⟨⟨v, bv.alloc _, br.alloc _, trivial⟩, bL1.alloc _⟩, hB1.alloc (by omega) _⟩ ⟨W.heap.size, bL1.lt, heap_alloc_new W _, rfl⟩
  case body =>
    rintro l pre x a' W hl ⟨r, hr⟩ ⟨⟨⟨v, bv, br, _⟩, bL1⟩, hB1⟩ ⟨Bx, hBx, bX, rfl⟩ hlt
    have hc := bv.cell
    have hx0 : W.cell? ⟨Bx, 0, none⟩ = some (.int .i64 (x.1.1 : Int)) := (blk_cell bX 0).trans rfl
    have hx1 : W.cell? ⟨Bx, 1, none⟩ = some (.int .i64 (x.1.2 : Int)) := (blk_cell bX 1).trans rfl
    have hcm1 : W.cell? ⟨w.heap.size + 1, 0, none⟩ = some (.int .i64 m) := (hB1.cell (p := ⟨w.heap.size + 1, 0, none⟩) hzm).trans hcm
    have hlen := Aside0.mk (Nat.lt_of_lt_of_le hlt (runsG_len ls (ls.length + 1) 0 0))
    clear hlt
    have hq1 : 0 ≤ (x.1.2 : Int) := by omega
    have hq2 : (x.1.2 : Int) ≤ 100000 := by have := x.2; omega
    have hm1 := HM.out
    have hm2 := HM'.out
    by_cases hcp : (x.1.2 : Int) - m + 1 ≤ 0
    · have hce : cntR m x = 0 := by unfold cntR; omega
      have HCE := Aside0.mk hce
      clear hce
      gi_wp2
      gi_loopw [25] (fun v25 wr => v25 = .int .i64 0 ∧ Aside0 (wr = W)) (fun _ _ => 0)
      case atStart => exact ⟨rfl, ⟨rfl⟩⟩
      case round =>
        obtain ⟨rfl, HW⟩ := hrel
        obtain rfl := HW.out
        clear HW
        gi_wp2
        exact ⟨KeepsFrom.refl _ _, ⟨Below.refl _ _, rfl⟩, ⟨⟨v, bv, by rw [startsP_snoc, HCE.out]; simpa [startsOf] using br, trivial⟩, bL1⟩, hB1⟩
    · have hce : (x.1.2 : Int) - m + 1 = ((cntR m x : Nat) : Int) := by unfold cntR; omega
      have HCE := Aside0.mk hce
      have hcl := cntR_le hm1 x
      have hcp' : 0 < (x.1.2 : Int) - m + 1 := by omega
      clear hce
      gi_wp2
      rw [HCE.out]
      have hs1 := hB1.size
      rw [hg] at hs1
      have hpl := Aside0.mk (startsP_len hm1 pre)
      have hxx : x.1.1 + x.1.2 ≤ 100000 := x.2
      clear hcp hcp' hc hx0 hx1
      generalize hcn : cntR m x = cn at *
      have HCN := Aside0.mk hcn
      clear hcn
      gi_loopw [25] (fun v25 wr => ∃ k : Nat, k ≤ cn ∧ v25 = .int .i64 k ∧ Aside0 (∃ v, Boxed wr g 22 v ∧ wr.ownsRow g 3 1 v (startsP m pre ++ startsOf x k).length ((startsP m pre ++ startsOf x k).map (Value.int .i64))) ∧ Aside0 (Boxed wr (g + 1) 22 (.slice A0 ls.length c0)) ∧ Aside0 (wr.heap[Bx]? = some (.cells #[.int .i64 (x.1.1 : Int), .int .i64 (x.1.2 : Int)] 43 (0, 0))) ∧ Aside0 (Below g W wr) ∧ Aside0 (KeepsFrom W0.heap.size W wr)) (fun v25 _ => cn - (intOf v25).toNat)
      case atStart => exact ⟨0, Nat.zero_le _, rfl, ⟨v, bv, by simpa [startsOf] using br⟩, ⟨bL1⟩, ⟨bX⟩, ⟨Below.refl _ _⟩, ⟨KeepsFrom.refl _ _⟩⟩
      case round =>
        obtain ⟨k, hk, rfl, HV, HL1, HX, HBW, HKF⟩ := hrel
        obtain ⟨v2, bv2, br2⟩ := HV.out
        have hc2 := bv2.cell
        have hx0 : wr.cell? ⟨Bx, 0, none⟩ = some (.int .i64 (x.1.1 : Int)) := (blk_cell HX.out 0).trans rfl
        have hsz2 := HBW.out.size
        have HN := Aside0.mk (show (startsP m pre ++ startsOf x k).length ≤ 10000100000 from by rw [List.length_append, startsOf_len]; have h1_ := hpl.out; have h2_ := hlen.out; have h3_ := HL.out; omega)
        obtain ⟨xs, hxs⟩ : ∃ xs, startsP m pre ++ startsOf x k = xs := ⟨_, rfl⟩
        rw [hxs] at br2 HN HV
        have HXS := Aside0.mk hxs
        clear hxs
        by_cases hlt : k < cn
        · have hlt' : (k : Int) < (cn : Int) := by omega
          have hle2 : (k : Int) ≤ 100000 := by omega
          have hle3 : (x.1.1 : Int) ≤ 100000 := by omega
          have hle4 : 0 ≤ (x.1.1 : Int) := by omega
          gi_wp2_with (gi_at_builtin; refine wpListIn_append_own _ rfl _ _ 22 rfl g 3 i0 (.int .i64 0) 1 8 Try.underlying22 H0.out H1.out H2.out H3.out rfl (by decide) _ _ _ rfl (br2.alloc _) ⟨wr.heap.size, 0, none⟩ 1 1 [.int .i64 ((x.1.1 : Int) + (k : Int))] rfl rfl (cell_one_new _ _ _) (by simp [Value.oneCell']) (by have h1_ := HN.out; unfold maxLen; omega) (by have h1_ := HN.out; omega) (by simp; omega) ?_; intro v' w1' hown' hgrow _; obtain ⟨g', cap', rfl⟩ := ownsRow_succ hown'; obtain ⟨hv1, hv2, hr2, hk2, hb2⟩ := bv2.appended (by decide) br2 (show g ≤ wr.heap.size by omega) (Nat.le_refl _) hown' hgrow; have hL3 := ((HL1.out.alloc (.cells #[.int .i64 ((x.1.1 : Int) + (k : Int))] 3)).kept hgrow (HL1.out.not_row (by decide) br2)).other (B' := g) (by omega) (.slice (some ⟨g', 0, none⟩) (xs.length + 1) cap'); have hX3 := (heap_setCell_other _ ⟨g, 0, none⟩ Bx (.slice (some ⟨g', 0, none⟩) (xs.length + 1) cap') (by simp; omega)).trans ((hgrow.block Bx (blk_lt (blk_alloc HX.out _)) (own_ne br2 HX.out (by decide))).trans (blk_alloc HX.out _)); have hc1 := hv1.cell; have hf1 := hv1.frozen)
          go_roundw
          case rel => exact ⟨k + 1, by omega, by first | rfl | simp, ⟨_, hv2, by rw [startsOf_succ, ← List.append_assoc, HXS.out, List.length_append, List.length_singleton, List.map_append]; exact hr2⟩, ⟨hL3⟩, ⟨hX3⟩, ⟨HBW.out.trans hb2⟩, ⟨HKF.out.trans (hk2.from _)⟩⟩
          case measure => simp [intOf]; omega
        · obtain rfl : k = cn := by omega
          gi_wp2
          exact ⟨HKF.out, ⟨HBW.out.mono (by omega), Eq.trans HL1.out (Eq.symm bL1)⟩, ⟨⟨v2, bv2, by rw [startsP_snoc, HCN.out, HXS.out]; exact br2, trivial⟩, HL1.out⟩, hB1.trans HBW.out⟩
  case done =>
    rintro D zs W hD rfl ⟨⟨⟨v, bv, br, _⟩, bL1⟩, hB1⟩ hK
    have cv := bv.cell
    have hwW : Below w.heap.size w W := HB1.out.trans (hB1.mono hw1)
    gi_wp2
    refine ⟨by simp, .inl ⟨_, _, rfl, run_takeDeferred hK, ?_⟩⟩
    exact ⟨_, results_tmp rfl _ _ _, v, rfl, own_weaken (ownsRow_putObj br _ hK rfl) hw1, hwW.trans (belowK_b (w := w) (Nat.le_refl _) W D _ _ (by omega) hK rfl rfl)⟩
  case stop =>
    rintro D c pre W _ _ h _
    exact h.elim
end Go.Proofs.Ytklghejinlhjpaa.X
