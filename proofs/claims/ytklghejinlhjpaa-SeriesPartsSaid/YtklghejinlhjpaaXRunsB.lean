/- This file proves what series.Runs and series.Starts hand back: all runs, and the places where so many values in a row begin. -/
import Derived.Test.YtklghejinlhjpaaXRuns
set_option linter.unusedVariables false
set_option linter.unusedSimpArgs false
namespace Go.Proofs.Ytklghejinlhjpaa.X
open Go.RowKit Go.Shelf Go.Proofs.YtklghejinlhjpaaW.PrintWords Go.Proofs.YtklghejinlhjpaaW.PrintLast Go.Proofs.YtklghejinlhjpaaW.PrintMore

attribute [local go_sem] Oper.semAt_some
theorem info_run : (Try.prog.info? 43).map (fun i => (i.zero, i.size, i.bytes)) = some (some (.agg #[.int .i64 0, .int .i64 0]), 2, 16) := by kernel_rfl
def runsP (l : List Int) : List RunP := runsG l (l.length + 1) 0 0
def runCells (pre : List RunP) : List Value := pre.flatMap fun x => [.int .i64 (x.1.1 : Int), .int .i64 (x.1.2 : Int)]
theorem runCells_snoc (pre : List RunP) (x : RunP) : runCells (pre ++ [x]) = runCells pre ++ [.int .i64 (x.1.1 : Int), .int .i64 (x.1.2 : Int)] := by simp [runCells]
theorem runsG_len (l : List Int) : ∀ d i fr, (runsG l d i fr).length ≤ d
  | 0, _, _ => Nat.le_refl _
  | d + 1, i, fr => by
    have h1 := runsG_len l d (i + 1) fr
    have h2 := runsG_len l d (i + 1) (i + 1)
    rw [runsG]
    split
    · omega
    · rw [List.length_append]
      split
      · simp; omega
      · simp; omega
/-- A block of cells that nobody turns. -/
theorem cells_own {β : Type} (B : Nat) (t : TypeId) (f : β → Array Value) : Own (fun s W => W.heap[B]? = some (.cells (f s) t (0, 0))) := fun s X Y row hs hg hrow =>
  (hg.block B (Array.getElem?_eq_some_iff.1 hs).1 (fun e' => by obtain ⟨o, ho, hc⟩ := hrow B e'.symm; rw [hs] at ho; cases ho; cases hc)).trans hs
/-- What series.Valid says of a series, whatever the world. -/
def ValidAt (a0 a1 : Int) (A0 : Option Addr) (c0 : Nat) (ls : List Int) (v : Bool) : Prop := ∀ W : World, Kd.C (Kd.int .i64) W A0 ls.length ls →
  Calls Try.prog 24 #[.agg #[.int .i64 a0, .int .i64 a1, .slice A0 ls.length c0]] W fun e W' => e = .returned (.bool v) ∧ Below W.heap.size W W'

set_option maxRecDepth 1000000 in
set_option maxHeartbeats 8000000 in
theorem runs_no (a0 a1 : Int) (A0 : Option Addr) (c0 : Nat) (ls : List Int) (w : World) (hr0 : Kd.C (Kd.int .i64) w A0 ls.length ls) (hV : Aside0 (ValidAt a0 a1 A0 c0 ls false)) :
    Calls Try.prog 19 #[.agg #[.int .i64 a0, .int .i64 a1, .slice A0 ls.length c0]] w fun e w' => e = .returned (.slice none 0 0) ∧ Below w.heap.size w w' := by
  have HR := Aside0.mk hr0
  clear hr0
  go_enter Try.func19, Try.ntmps19
  go_wp2_with (first | (go_at_call 24; refine (hV.out _ (Kd.C_below HR.out ((Below.refl _ _).alloc (Nat.le_refl _) _))).mono ?_; rintro e w1 ⟨rfl, hb1⟩))
  go_ret
  exact ⟨rfl, below_step ((Below.refl _ _).alloc (Nat.le_refl _) _) hb1⟩

set_option maxRecDepth 1000000 in
set_option maxHeartbeats 8000000 in
theorem runs_yes (a0 a1 : Int) (A0 : Option Addr) (c0 : Nat) (ls : List Int) (hls : ls.length ≤ 99999) (w : World) (hr0 : Kd.C (Kd.int .i64) w A0 ls.length ls) (hV : Aside0 (ValidAt a0 a1 A0 c0 ls true)) :
    Calls Try.prog 19 #[.agg #[.int .i64 a0, .int .i64 a1, .slice A0 ls.length c0]] w fun e w' => ∃ v : Value, e = .returned v ∧ w'.ownsRow w.heap.size 43 2 v (runsP ls).length (runCells (runsP ls)) ∧ Below w.heap.size w w' := by
  have HR := Aside0.mk hr0
  have HL := Aside0.mk hls
  clear hls
  obtain ⟨i0, hi0, hz0, hz1, hz2⟩ := info_parts info_run
  have H0 := Aside0.mk hi0
  have H1 := Aside0.mk hz0
  have H2 := Aside0.mk hz1
  have H3 := Aside0.mk hz2
  clear hi0 hz0 hz1 hz2 hr0
  refine (callsIn_wide (n := 6)).1 ?_
  refine callsIn_of_wp_marks Try.func19 rfl trivial ?_ rfl
  simp only [Try.ntmps19, List.size_toArray, List.length_cons, List.length_nil, Nat.reduceAdd, Nat.reduceSub, Array.replicate_succ, Array.replicate_zero, List.push_toArray, List.append_toArray, List.nil_append, List.cons_append]
  gi_wp2_with (first | (refine ⟨trivial, ?_⟩; gi_at_call 24; refine (callsIn_wide.2 (hV.out _ (Kd.C_below HR.out ((Below.refl _ _).alloc (Nat.le_refl _) _)))).mono ?_; rintro e w1 ⟨rfl, hb1⟩; have HB1 := Aside0.mk (below_step ((Below.refl w.heap.size w).alloc (Nat.le_refl _) _) hb1); have hc2 : w1.cell? ⟨w.heap.size, 2, none⟩ = some (.slice A0 ls.length c0) := (blk_cell (blk_below (heap_alloc_new w _) hb1) 2).trans rfl; have hz : w.heap.size < w1.heap.size := blk_lt (blk_below (heap_alloc_new w _) hb1); clear hb1) | (gi_at_call 35; refine (runs_in _ A0 c0 ls.length _).mono ?_; rintro e w2 ⟨rfl, rfl⟩) | (refine ⟨trivial, ?_⟩; gi_at_call 35; refine (runs_in _ A0 c0 ls.length _).mono ?_; rintro e w2 ⟨rfl, rfl⟩))
  have bO := (Boxed.new w1 40 (.slice none 0 0)).alloc (.cells #[.slice A0 ls.length c0] 22)
  have bL := Boxed.new (w1.alloc (.cells #[.slice none 0 0] 40)) 22 (.slice A0 ls.length c0)
  rw [World.size_alloc] at bL
  have hB0 : Below w.heap.size w ((w1.alloc (.cells #[.slice none 0 0] 40)).alloc (.cells #[.slice A0 ls.length c0] 22)) := (HB1.out.alloc (below_size HB1.out) _).alloc (by have := below_size HB1.out; simp; omega) _
  have hsz : ((w1.alloc (.cells #[.slice none 0 0] 40)).alloc (.cells #[.slice A0 ls.length c0] 22)).heap.size = w1.heap.size + 2 := by simp
  obtain ⟨W0, hW0⟩ : ∃ W0, (w1.alloc (.cells #[.slice none 0 0] 40)).alloc (.cells #[.slice A0 ls.length c0] 22) = W0 := ⟨_, rfl⟩
  rw [hW0] at bO bL hB0 hsz ⊢
  clear hW0 hc2 HB1
  have hg0 : w.heap.size ≤ w1.heap.size := by omega
  generalize w1.heap.size = g at *
  refine wpIn_rangeFunc_ownH rfl (by decide) (gf := 46) (lb := #[.pointer (some ⟨g + 1, 0, none⟩)]) rfl trivial (enters_of Try.func46 (by kernel_rfl) rfl)
    (runs_stops _ (by decide) (g + 1) A0 c0 ls HL.out w W0 HR.out bL hB0) kept_t (kept_b (by omega) (by omega)) (Below.refl _ _) (fun _ => rfl)
    (fun pre W => ((∃ v, Boxed W g 40 v ∧ W.ownsRow w.heap.size 43 2 v pre.length (runCells pre) ∧ True) ∧ Boxed W (g + 1) 22 (.slice A0 ls.length c0)) ∧ Below w.heap.size w W)
    (fun _ _ _ => False)
    (OwnFrom.and (OwnFrom.and (Own.from (holdsRow_own w.heap.size g 40 43 2 (fun pre => List.length pre) runCells (fun _ _ => True)) _) (Own.from (boxed_own _ _ _) _)) (ownFrom_below (Nat.le_refl _) (by omega)))
    (fun _ _ _ _ _ hs _ _ => hs)
    ⟨⟨⟨_, bO, World.ownsRow_nil _ _ _ _, trivial⟩, bL⟩, hB0⟩
    (fun x a' W => ∃ Bx, g + 1 < Bx ∧ W.heap[Bx]? = some (.cells #[.int .i64 (x.1.1 : Int), .int .i64 (x.1.2 : Int)] 43 (0, 0)) ∧ a' = { tmps := #[.agg #[.int .i64 a0, .int .i64 a1, .slice A0 ls.length c0], .pointer (some ⟨w.heap.size, 0, none⟩), .slice none 0 0, .pointer (some ⟨g, 0, none⟩), .pointer (some ⟨Bx, 0, none⟩), .agg #[.int .i64 a0, .int .i64 a1, .slice A0 ls.length c0], .bool true, .bool false, .pointer (some ⟨w.heap.size, 2, none⟩), .slice A0 ls.length c0, .func (.func 46) #[] #[.pointer (some ⟨g + 1, 0, none⟩)], .agg #[.int .i64 (x.1.1 : Int), .int .i64 (x.1.2 : Int)], undef, undef, undef, undef, undef], defers := [] })
    (fun x a' _ X Y row hs hg hr => by obtain ⟨Bx, h1, h2, h3⟩ := hs; exact ⟨Bx, h1, cells_own Bx 43 (fun (_ : Unit) => #[.int .i64 (x.1.1 : Int), .int .i64 (x.1.2 : Int)]) () X Y row h2 hg (fun r e => (hr r e).2), h3⟩)
    ?assign ?body ?done ?stop
  case assign =>
    rintro l pre x W K ⟨⟨⟨v, bv, br, _⟩, bL1⟩, hB1⟩ hK
    unfold encRun
    gi_wp2
    exact hK _ _ ((KeepsOthers.alloc _ _).from _) ⟨(Below.refl _ W).alloc (below_size hB1) _, Below.heap_alloc W _ _ bL1.lt⟩ ⟨⟨⟨v, bv.alloc _, br.alloc _, trivial⟩, bL1.alloc _⟩, hB1.alloc (below_size hB1) _⟩ ⟨W.heap.size, bL1.lt, heap_alloc_new W _, rfl⟩
  case body =>
    rintro l pre x a' W hl ⟨r, hr⟩ ⟨⟨⟨v, bv, br, _⟩, bL1⟩, hB1⟩ ⟨Bx, hBx, bX, rfl⟩ hlt
    have hc := bv.cell
    have hx0 : W.cell? ⟨Bx, 0, none⟩ = some (.int .i64 (x.1.1 : Int)) := (blk_cell bX 0).trans rfl
    have hx1 : W.cell? ⟨Bx, 1, none⟩ = some (.int .i64 (x.1.2 : Int)) := (blk_cell bX 1).trans rfl
    have hlen := Aside0.mk (Nat.lt_of_lt_of_le hlt (runsG_len ls (ls.length + 1) 0 0))
    clear hlt
    gi_wp2_with (gi_at_builtin; refine wpListIn_append_own _ rfl _ _ 40 rfl w.heap.size 43 i0 (.agg #[.int .i64 0, .int .i64 0]) 2 16 Try.underlying40 H0.out H1.out H2.out H3.out rfl (by decide) _ _ _ rfl (br.alloc _) ⟨W.heap.size, 0, none⟩ 1 1 [.int .i64 (x.1.1 : Int), .int .i64 (x.1.2 : Int)] rfl rfl (by simpa using World.news_of_block (cs := #[.int .i64 (x.1.1 : Int), .int .i64 (x.1.2 : Int)]) (t := 43) (fr := (0, 0)) (heap_alloc_new W _)) (by simp [Value.oneCell']) (by have h1_ := HL.out; have h2_ := hlen.out; unfold maxLen; omega) (by have h1_ := HL.out; have h2_ := hlen.out; omega) (by have := below_size hB1; simp; omega) ?_; intro v' w1' hown' hgrow _; obtain ⟨g', cap', rfl⟩ := ownsRow_succ hown'; obtain ⟨hv1, hv2, hr2, hk2, hb2⟩ := bv.appended (by decide) br (below_size hB1) hg0 hown' hgrow; have hL2 := (bL1.alloc (.cells #[.int .i64 (x.1.1 : Int), .int .i64 (x.1.2 : Int)] 43)).kept hgrow (bL1.not_row (by decide) br); have hL3 := hL2.other (B' := g) (by omega) (.slice (some ⟨g', 0, none⟩) (pre.length + 1) cap'); have hc1 := hv1.cell; have hf1 := hv1.frozen)
    exact ⟨hk2.from _, ⟨hb2, Eq.trans hL3 (Eq.symm bL1)⟩, ⟨⟨_, hv2, by rw [List.length_append, List.length_singleton, runCells_snoc]; exact hr2, trivial⟩, hL3⟩, hB1.trans hb2⟩
  case done =>
    rintro D zs W hD rfl ⟨⟨⟨v, bv, br, _⟩, bL1⟩, hB1⟩ hK
    have cv := bv.cell
    gi_wp2
    refine ⟨by simp, .inl ⟨_, _, rfl, run_takeDeferred hK, ?_⟩⟩
    exact ⟨_, results_tmp rfl _ _ _, v, rfl, ownsRow_putObj br _ hK rfl, hB1.trans (belowK_b (w := w) (Nat.le_refl _) W D _ _ (by omega) hK rfl rfl)⟩
  case stop =>
    rintro D c pre W _ _ h _
    exact h.elim
/-! ### Starts -/
theorem info_int3 : (Try.prog.info? 3).map (fun i => (i.zero, i.size, i.bytes)) = some (some (.int .i64 0), 1, 8) := by kernel_rfl
def cntR (m : Int) (x : RunP) : Nat := ((x.1.2 : Int) - m + 1).toNat
def startsOf (x : RunP) (k : Nat) : List Int := (List.range k).map fun (j : Nat) => (x.1.1 : Int) + (j : Int)
theorem startsOf_succ (x : RunP) (k : Nat) : startsOf x (k + 1) = startsOf x k ++ [(x.1.1 : Int) + (k : Int)] := by unfold startsOf; rw [List.range_succ, List.map_append]; rfl
theorem startsOf_len (x : RunP) (k : Nat) : (startsOf x k).length = k := by unfold startsOf; rw [List.length_map, List.length_range]
def startsP (m : Int) (pre : List RunP) : List Int := pre.flatMap fun x => startsOf x (cntR m x)
theorem startsP_snoc (m : Int) (pre : List RunP) (x : RunP) : startsP m (pre ++ [x]) = startsP m pre ++ startsOf x (cntR m x) := by simp [startsP]
theorem cntR_le {m : Int} (h : 1 ≤ m) (x : RunP) : cntR m x ≤ 100000 := by
  have := x.2
  unfold cntR
  omega
theorem startsP_len {m : Int} (h : 1 ≤ m) : ∀ pre : List RunP, (startsP m pre).length ≤ pre.length * 100000
  | [] => by simp [startsP]
  | x :: pre => by
    have h1 := startsP_len h pre
    have h2 := cntR_le h x
    have e : startsP m (x :: pre) = startsOf x (cntR m x) ++ startsP m pre := by simp [startsP]
    rw [e, List.length_append, startsOf_len, List.length_cons]
    omega
set_option maxRecDepth 1000000 in
set_option maxHeartbeats 8000000 in
theorem starts_no (a0 a1 : Int) (A0 : Option Addr) (c0 : Nat) (ls : List Int) (m : Int) (w : World) (hr0 : Kd.C (Kd.int .i64) w A0 ls.length ls) (hV : Aside0 (ValidAt a0 a1 A0 c0 ls false)) :
    Calls Try.prog 11 #[.agg #[.int .i64 a0, .int .i64 a1, .slice A0 ls.length c0], .int .i64 m] w fun e w' => e = .returned (.slice none 0 0) ∧ Below w.heap.size w w' := by
  have HR := Aside0.mk hr0
  clear hr0
  go_enter Try.func11, Try.ntmps11
  go_wp2_with (first | (go_at_call 24; refine (hV.out _ (Kd.C_below HR.out (by repeat (first | exact Below.refl _ _ | apply below_alloc)))).mono ?_; rintro e w1 ⟨rfl, hb1⟩; have HB1 := Aside0.mk (below_step (by repeat (first | exact Below.refl _ _ | apply below_alloc) : Below w.heap.size w _) hb1); clear hb1))
  go_ret
  exact ⟨rfl, HB1.out⟩
set_option maxRecDepth 1000000 in
set_option maxHeartbeats 8000000 in
theorem starts_low (a0 a1 : Int) (A0 : Option Addr) (c0 : Nat) (ls : List Int) (m : Int) (hm : m < 1) (w : World) (hr0 : Kd.C (Kd.int .i64) w A0 ls.length ls) (hV : Aside0 (ValidAt a0 a1 A0 c0 ls true)) :
    Calls Try.prog 11 #[.agg #[.int .i64 a0, .int .i64 a1, .slice A0 ls.length c0], .int .i64 m] w fun e w' => e = .returned (.slice none 0 0) ∧ Below w.heap.size w w' := by
  have HR := Aside0.mk hr0
  clear hr0
  have dm : decide (m < 1) = true := decide_eq_true hm
  go_enter Try.func11, Try.ntmps11
  go_wp2_with (first | (go_at_call 24; refine (hV.out _ (Kd.C_below HR.out (by repeat (first | exact Below.refl _ _ | apply below_alloc)))).mono ?_; rintro e w1 ⟨rfl, hb1⟩; have HB1 := Aside0.mk (below_step (by repeat (first | exact Below.refl _ _ | apply below_alloc) : Below w.heap.size w ((w.alloc (.cells #[.int .i64 a0, .int .i64 a1, .slice A0 ls.length c0] 24)).alloc (.cells #[.int .i64 m] 3))) hb1); have hbm := blk_below (heap_alloc_new (w.alloc (.cells #[.int .i64 a0, .int .i64 a1, .slice A0 ls.length c0] 24)) (.cells #[.int .i64 m] 3)) hb1; rw [World.size_alloc] at hbm; have hcm : w1.cell? ⟨w.heap.size + 1, 0, none⟩ = some (.int .i64 m) := (blk_cell hbm 0).trans rfl; clear hb1 hbm))
  go_ret
  exact ⟨rfl, HB1.out⟩
end Go.Proofs.Ytklghejinlhjpaa.X
