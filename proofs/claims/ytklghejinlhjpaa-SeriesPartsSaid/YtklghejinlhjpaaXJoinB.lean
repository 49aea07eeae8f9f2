/- This file proves what series.Join makes of two series that fit: one series with the values of both, and missing ones between. -/
import Derived.Test.YtklghejinlhjpaaXJoin
import Derived.Test.YtklghejinlhjpaaXRunsB
import Derived.Deep.DeepCutAuto
set_option linter.unusedVariables false
set_option linter.unusedSimpArgs false
namespace Go.Proofs.Ytklghejinlhjpaa.XJ
open Go.RowKit Go.Proofs.YtklghejinlhjpaaW.PrintWords Go.Proofs.YtklghejinlhjpaaW.PrintLast Go.Proofs.YtklghejinlhjpaaW.PrintMore Go.Proofs.Ytklghejinlhjpaa.X

/-- The boxes of the two arguments lie as they were made, and nothing below has changed. -/
structure BX (w : World) (ca cb : Array Value) (W : World) : Prop where
  below : Below w.heap.size w W
  a : W.heap[w.heap.size]? = some (.cells ca 24 (0, 0))
  b : W.heap[w.heap.size + 1]? = some (.cells cb 24 (0, 0))
  z : W.heap[w.heap.size + 2]? = some (.cells #[.int .i64 0, .int .i64 0, .slice none 0 0] 24 (0, 0))
theorem BX.step {w W W1 : World} {ca cb : Array Value} (h : BX w ca cb W) (hb : Below W.heap.size W W1) : BX w ca cb W1 :=
  ⟨below_step h.below hb, blk_below h.a hb, blk_below h.b hb, blk_below h.z hb⟩
theorem BX.new (w : World) (ca cb : Array Value) : BX w ca cb (((w.alloc (.cells ca 24)).alloc (.cells cb 24)).alloc (.cells #[.int .i64 0, .int .i64 0, .slice none 0 0] 24)) := by
  refine ⟨((((Below.refl w.heap.size w).alloc (Nat.le_refl _) _).alloc (by simp) _).alloc (by simp; omega) _), blk_alloc (blk_alloc (heap_alloc_new w _) _) _, ?_, ?_⟩
  · have := blk_alloc (heap_alloc_new (w.alloc (.cells ca 24)) (.cells cb 24)) (.cells #[.int .i64 0, .int .i64 0, .slice none 0 0] 24)
    rwa [World.size_alloc] at this
  · have := heap_alloc_new ((w.alloc (.cells ca 24)).alloc (.cells cb 24)) (.cells #[.int .i64 0, .int .i64 0, .slice none 0 0] 24)
    rwa [World.size_alloc, World.size_alloc] at this
theorem BX.drewN {w W : World} {ca cb : Array Value} (h : BX w ca cb W) (n : Nat) : BX w ca cb (W.drewN n) := ⟨pw_below_drewN h.below n, h.a, h.b, h.z⟩
theorem BX.drew1 {w W : World} {ca cb : Array Value} (h : BX w ca cb W) : BX w ca cb W.drew := ⟨below_drew h.below, h.a, h.b, h.z⟩
theorem BX.cells {w W : World} {x0 x1 x2 y0 y1 y2 : Value} (h : BX w #[x0, x1, x2] #[y0, y1, y2] W) :
    W.cell? ⟨w.heap.size, 0, none⟩ = some x0 ∧ W.cell? ⟨w.heap.size, 1, none⟩ = some x1 ∧ W.cell? ⟨w.heap.size, 2, none⟩ = some x2 ∧
    W.cell? ⟨w.heap.size + 1, 0, none⟩ = some y0 ∧ W.cell? ⟨w.heap.size + 1, 1, none⟩ = some y1 ∧ W.cell? ⟨w.heap.size + 1, 2, none⟩ = some y2 :=
  ⟨(blk_cell h.a 0).trans rfl, (blk_cell h.a 1).trans rfl, (blk_cell h.a 2).trans rfl, (blk_cell h.b 0).trans rfl, (blk_cell h.b 1).trans rfl, (blk_cell h.b 2).trans rfl⟩
theorem BX.alloc {w W : World} {ca cb : Array Value} (h : BX w ca cb W) (o : Obj) : BX w ca cb (W.alloc o) := ⟨h.below.alloc h.below.size o, blk_alloc h.a o, blk_alloc h.b o, blk_alloc h.z o⟩
theorem BX.set {w W : World} {ca cb : Array Value} (h : BX w ca cb W) (q : Addr) (v : Value) (hq : w.heap.size + 2 < q.block) : BX w ca cb (W.setCell q v) :=
  ⟨h.below.setCell (by omega) v, (Below.heap_setCell W q v _ (by omega)).trans h.a, (Below.heap_setCell W q v _ (by omega)).trans h.b, (Below.heap_setCell W q v _ (by omega)).trans h.z⟩
theorem bcell {W w1 : World} (hb : Below W.heap.size W w1) : (∀ b o, b < W.heap.size → w1.cell? ⟨b, o, none⟩ = W.cell? ⟨b, o, none⟩) ∧ (∀ b o, b < W.heap.size → w1.frozen? ⟨b, o, none⟩ = W.frozen? ⟨b, o, none⟩) :=
  ⟨fun b o h => hb.cell (p := ⟨b, o, none⟩) h, fun b o h => hb.frozen (p := ⟨b, o, none⟩) h⟩
theorem heap_new1 (W : World) (o1 o2 : Obj) : ((W.alloc o1).alloc o2).heap[W.heap.size + 1]? = some o2 := by
  have := heap_alloc_new (W.alloc o1) o2
  rwa [World.size_alloc] at this
theorem lit_at {W : World} {g : Nat} {x : Value} {t : TypeId} (h : W.heap[g]? = some (.cells #[x] t (0, 0))) : W.cell? ((⟨g, 0, none⟩ : Addr).add 0) = some x := by
  rw [add_plain]
  exact (blk_cell h 0).trans rfl
theorem rows3 {W : World} {g : Nat} {x0 x1 x2 : List Int} {A0 A1 A2 : Option Addr} {c0 c1 c2 : Nat} {t : TypeId} (hg : W.heap[g]? = some (.cells #[.slice A0 x0.length c0, .slice A1 x1.length c1, .slice A2 x2.length c2] t (0, 0)))
    (h0 : Kd.C (Kd.int .i64) W A0 x0.length x0) (h1 : Kd.C (Kd.int .i64) W A1 x1.length x1) (h2 : Kd.C (Kd.int .i64) W A2 x2.length x2) (k0 : x0.length ≤ c0) (k1 : x1.length ≤ c1) (k2 : x2.length ≤ c2) :
    Kd.C (Kd.slice 3 (Kd.int .i64)) W (some ⟨g, 0, none⟩) [x0, x1, x2].length [x0, x1, x2] := by
  refine ⟨rfl, by simp, fun _ => ⟨⟨g, 0, none⟩, rfl, fun j p hj => ?_⟩⟩
  have one : ∀ (x : List Int) (A : Option Addr) (c : Nat) (k : Nat), Kd.C (Kd.int .i64) W A x.length x → x.length ≤ c → W.cell? ⟨g, k, none⟩ = some (.slice A x.length c) →
      ∃ cs, cs.length = (Kd.slice 3 (Kd.int .i64)).sz ∧ (Kd.slice 3 (Kd.int .i64)).K W x cs ∧ ∀ i u, cs[i]? = some u → W.cell? ((⟨g, 0, none⟩ : Addr).add (k * (Kd.slice 3 (Kd.int .i64)).sz + i)) = some u := by
    intro x A c k hx hl hc
    refine ⟨[.slice A x.length c], rfl, ⟨A, c, rfl, hl, hx⟩, fun i u hu => ?_⟩
    match i, hu with
    | 0, hu =>
      rw [add_plain, show (Kd.slice 3 (Kd.int .i64)).sz = 1 from rfl, Nat.mul_one, Nat.add_zero, hc]
      exact hu
    | i + 1, hu => simp at hu
  match j, hj with
  | 0, hj => cases hj; exact one x0 A0 c0 0 h0 k0 ((blk_cell hg 0).trans rfl)
  | 1, hj => cases hj; exact one x1 A1 c1 1 h1 k1 ((blk_cell hg 1).trans rfl)
  | 2, hj => cases hj; exact one x2 A2 c2 2 h2 k2 ((blk_cell hg 2).trans rfl)
  | j + 3, hj => simp at hj
theorem blk_b {w w1 : World} (hb : Below w.heap.size w w1) {g : Nat} {o : Obj} (h : w.heap[g]? = some o) : w1.heap[g]? = some o := blk_below h hb
/-- The new series lies in a box, its values in a row of their own. -/
structure Done (w : World) (ca cb : Array Value) (a0 a1 : Int) (A : Option Addr) (c : Nat) (L : List Int) (g : Nat) (W : World) : Prop where
  bx : BX w ca cb W
  box : W.heap[g]? = some (.cells #[.int .i64 a0, .int .i64 a1, .slice A L.length c] 24 (0, 0))
  row : Kd.R (Kd.int .i64) 3 W w.heap.size (fun _ => True) (.slice A L.length c) L
theorem Done.of_alloc {w W : World} {ca cb : Array Value} {a0 a1 : Int} {A : Option Addr} {c : Nat} {L : List Int} {base : Nat} (hb : BX w ca cb W) (hr : Kd.R (Kd.int .i64) 3 W base (fun _ => True) (.slice A L.length c) L) (hbase : w.heap.size ≤ base) :
    Done w ca cb a0 a1 A c L W.heap.size (W.alloc (.cells #[.int .i64 a0, .int .i64 a1, .slice A L.length c] 24)) :=
  ⟨hb.alloc _, heap_alloc_new W _, Kd.R_lower (Kd.R_below hr ((Below.refl _ _).alloc (Nat.le_refl _) _)) hbase⟩
theorem Done.of_set {w W : World} {ca cb : Array Value} {a0 a1 : Int} {A : Option Addr} {c : Nat} {L : List Int} {base g : Nat} (hx : W.heap[g]? = some (.cells #[.int .i64 0, .int .i64 0, .slice none 0 0] 24 (0, 0))) (hb : BX w ca cb W) (hr : Kd.R (Kd.int .i64) 3 W base (fun _ => True) (.slice A L.length c) L) (hbase : w.heap.size ≤ base) (hg : w.heap.size + 2 < g) :
    Done w ca cb a0 a1 A c L g (((W.setCell ⟨g, 0, none⟩ (.int .i64 a0)).setCell ⟨g, 1, none⟩ (.int .i64 a1)).setCell ⟨g, 2, none⟩ (.slice A L.length c)) := by
  have h1 := blk_set hx 0 (.int .i64 a0)
  have h2 := blk_set h1 1 (.int .i64 a1)
  have h3 := blk_set h2 2 (.slice A L.length c)
  have ht : ∀ q, q ∈ 3 :: (Kd.int .i64).E → q ≠ 24 := by
    intro q hq
    rcases List.mem_cons.1 hq with rfl | hq
    · decide
    · cases hq
  exact ⟨((hb.set ⟨g, 0, none⟩ _ hg).set ⟨g, 1, none⟩ _ hg).set ⟨g, 2, none⟩ _ hg, h3, Kd.R_lower (Kd.R_set (Kd.R_set (Kd.R_set hr hx ht 0 _) h1 ht 1 _) h2 ht 2 _) hbase⟩
theorem Done.reads {w : World} {ca cb : Array Value} {a0 a1 : Int} {A : Option Addr} {c : Nat} {L : List Int} {g : Nat} {W : World} (h : Done w ca cb a0 a1 A c L g W) : Kd.C (Kd.int .i64) W A L.length L := by
  obtain ⟨A', c', e, hl, hr⟩ := Kd.R_reads h.row
  injection e with e1 e2 e3
  rw [e1]
  exact hr
theorem Done.step {w : World} {ca cb : Array Value} {a0 a1 : Int} {A : Option Addr} {c : Nat} {L : List Int} {g : Nat} {W W1 : World} (h : Done w ca cb a0 a1 A c L g W) (hb : Below W.heap.size W W1) : Done w ca cb a0 a1 A c L g W1 :=
  ⟨h.bx.step hb, blk_below h.box hb, Kd.R_below h.row hb⟩
theorem Done.last {w : World} {ca cb : Array Value} {a0 a1 : Int} {A : Option Addr} {c : Nat} {L : List Int} {g : Nat} {W : World} (h : Done w ca cb a0 a1 A c L g W) {x0 x1 x2 : Value} :
    (((W.setCell ⟨w.heap.size + 1 + 1, 0, none⟩ x0).setCell ⟨w.heap.size + 1 + 1, 1, none⟩ x1).setCell ⟨w.heap.size + 1 + 1, 2, none⟩ x2).heap[w.heap.size + 1 + 1]? = some (.cells #[x0, x1, x2] 24 (0, 0)) ∧
    Kd.R (Kd.int .i64) 3 (((W.setCell ⟨w.heap.size + 1 + 1, 0, none⟩ x0).setCell ⟨w.heap.size + 1 + 1, 1, none⟩ x1).setCell ⟨w.heap.size + 1 + 1, 2, none⟩ x2) w.heap.size (fun _ => True) (.slice A L.length c) L ∧
    Below w.heap.size w (((W.setCell ⟨w.heap.size + 1 + 1, 0, none⟩ x0).setCell ⟨w.heap.size + 1 + 1, 1, none⟩ x1).setCell ⟨w.heap.size + 1 + 1, 2, none⟩ x2) := by
  have hz : W.heap[w.heap.size + 1 + 1]? = some (.cells #[.int .i64 0, .int .i64 0, .slice none 0 0] 24 (0, 0)) := h.bx.z
  have h1 := blk_set hz 0 x0
  have h2 := blk_set h1 1 x1
  have h3 := blk_set h2 2 x2
  have ht : ∀ q, q ∈ 3 :: (Kd.int .i64).E → q ≠ 24 := by
    intro q hq
    rcases List.mem_cons.1 hq with rfl | hq
    · decide
    · cases hq
  refine ⟨h3, Kd.R_set (Kd.R_set (Kd.R_set h.row hz ht 0 _) h1 ht 1 _) h2 ht 2 _, ?_⟩
  exact ((h.bx.below.setCell (by simp; omega) x0).setCell (by simp; omega) x1).setCell (by simp; omega) x2
def EndAt (a0 a1 : Int) (A0 : Option Addr) (c0 : Nat) (ls : List Int) (v : Int) : Prop := ∀ W : World, Kd.C (Kd.int .i64) W A0 ls.length ls →
  Calls Try.prog 40 #[.agg #[.int .i64 a0, .int .i64 a1, .slice A0 ls.length c0]] W fun e w' => e = .returned (.int .i64 v) ∧ Below W.heap.size W w'

set_option maxRecDepth 1000000 in
set_option maxHeartbeats 8000000 in
theorem join_yes (a0 a1 : Int) (A0 : Option Addr) (c0 : Nat) (l0 : List Int) (b0 : Int) (A1 : Option Addr) (c1 : Nat) (l1 : List Int) (E : Int) (n : Nat) (L : List Int) (hL : L = l0 ++ (List.replicate n 1073741824 ++ l1))
    (h1 : 1 ≤ a1) (h2 : a1 ≤ 2199023255552) (hn : l0.length + n + l1.length ≤ 2000) (hE : 0 ≤ E) (hE2 : E ≤ 9223372036854775) (hb0 : 0 ≤ b0) (hb1 : b0 ≤ 9223372036854775) (hg : b0 - E = a1 * (n : Int))
    (w : World) (hr0 : Kd.C (Kd.int .i64) w A0 l0.length l0) (hr1 : Kd.C (Kd.int .i64) w A1 l1.length l1) (hc0 : l0.length ≤ c0) (hc1 : l1.length ≤ c1)
    (hV0 : Aside0 (ValidAt a0 a1 A0 c0 l0 true)) (hV1 : Aside0 (ValidAt b0 a1 A1 c1 l1 true)) (hEn : Aside0 (EndAt a0 a1 A0 c0 l0 E))
    (hV2 : Aside0 (∀ A c, L.length ≤ c → ValidAt a0 a1 A c L true)) :
    Calls Try.prog 20 #[.agg #[.int .i64 a0, .int .i64 a1, .slice A0 l0.length c0], .agg #[.int .i64 b0, .int .i64 a1, .slice A1 l1.length c1]] w fun e w' =>
      ∃ v : Value, e = .returned (.tuple #[.agg #[.int .i64 a0, .int .i64 a1, v], .int .i64 0]) ∧ Kd.R (Kd.int .i64) 3 w' w.heap.size (fun _ => True) v L ∧ Below w.heap.size w w' := by
  obtain ⟨g, hgg⟩ : ∃ g, g = a1 * (n : Int) := ⟨_, rfl⟩
  rw [← hgg] at hg
  have hn0 : 0 ≤ (n : Int) := by omega
  have hg0 : 0 ≤ g := by rw [hgg]; exact Int.mul_nonneg (by omega) (by omega)
  have hm : g % a1 = 0 := by rw [hgg]; exact Int.mul_emod_right _ _
  have hq : g / a1 = (n : Int) := by rw [hgg]; exact Int.mul_ediv_cancel_left _ (by omega)
  have hne : ¬ a1 = 0 := by omega
  have hlt : decide (g < 0) = false := decide_eq_false (by omega)
  have HG := Aside0.mk hgg
  have HR0 := Aside0.mk hr0
  have HR1 := Aside0.mk hr1
  have HL := Aside0.mk hL
  clear hgg hr0 hr1 hL
  go_enter Try.func20, Try.ntmps20
  go_upto_region 1 with (fail)
  have HX0 := Aside0.mk (BX.new w #[.int .i64 a0, .int .i64 a1, .slice A0 l0.length c0] #[.int .i64 b0, .int .i64 a1, .slice A1 l1.length c1])
  generalize (((w.alloc (Obj.cells #[.int .i64 a0, .int .i64 a1, .slice A0 l0.length c0] 24)).alloc (Obj.cells #[.int .i64 b0, .int .i64 a1, .slice A1 l1.length c1] 24)).alloc (Obj.cells #[.int .i64 0, .int .i64 0, .slice none 0 0] 24)) = W0 at HX0 ⊢
  obtain ⟨k0, k1, k2, k3, k4, k5⟩ := HX0.out.cells
  go_wp2_with fail
  go_at_call 24
  refine (hV0.out _ (Kd.C_below HR0.out HX0.out.below)).mono ?_
  rintro e w1 ⟨rfl, hb1⟩
  have HX1 := Aside0.mk (HX0.out.step hb1)
  clear hb1 k0 k1 k2 k3 k4 k5
  obtain ⟨k0, k1, k2, k3, k4, k5⟩ := HX1.out.cells
  go_wp2_with fail
  go_at_call 24
  refine (hV1.out _ (Kd.C_below HR1.out HX1.out.below)).mono ?_
  rintro e w2 ⟨rfl, hb2⟩
  have HX2 := Aside0.mk (HX1.out.step hb2)
  clear hb2 k0 k1 k2 k3 k4 k5
  obtain ⟨k0, k1, k2, k3, k4, k5⟩ := HX2.out.cells
  go_wp2_with fail
  have hw : IntKind.i64.wrap (b0 - E) = g := (IntWalk.i64_in _ (by omega)).trans hg
  go_region_held3 (fun W => W.cell? ⟨w.heap.size, 0, none⟩ = some (.int .i64 a0) ∧ W.cell? ⟨w.heap.size, 1, none⟩ = some (.int .i64 a1) ∧ W.cell? ⟨w.heap.size, 2, none⟩ = some (.slice A0 l0.length c0) ∧ W.cell? ⟨w.heap.size + 1, 0, none⟩ = some (.int .i64 b0) ∧ W.cell? ⟨w.heap.size + 1, 1, none⟩ = some (.int .i64 a1) ∧ W.cell? ⟨w.heap.size + 1, 2, none⟩ = some (.slice A1 l1.length c1))
    (first | go_keep | exact ((HX2.out.drew1).step hb3).cells | exact ((HX2.out).step hb3).cells)
    ((go_at_call 40; refine (hEn.out _ (Kd.C_below HR0.out (by first | exact HX2.out.below | exact HX2.out.drew1.below))).mono ?_; rintro e w3 ⟨rfl, hb3⟩))
  have HX3 := Aside0.mk (HX2.out.drew1.step hb3)
  clear hb3 k0 k1 k2 k3 k4 k5 hw
  obtain ⟨k0, k1, k2, k3, k4, k5⟩ := HX3.out.cells
  go_upto_region 9 with (fail)
  have hz3 := blk_lt HX3.out.z
  clear hg hm hq hlt hE hE2 hb0 hb1 hg0 hV0 hV1 hEn HX0 HX1 HX2 HG
  have hn2 : n ≤ 2000 := by omega
  obtain ⟨R, hR⟩ : ∃ R, R = List.replicate n (1073741824 : Int) := ⟨_, rfl⟩
  have HRp := Aside0.mk hR
  rw [← hR] at HL
  have hLf : [l0, R, l1].flatten = L := by rw [HL.out]; simp
  have hL6 : L.length ≤ 6000 := by rw [HL.out, hR]; simp; omega
  clear hR
  go_cut [8] (fun s8 wx => ∃ g A c, s8 = .pointer (some ⟨g, 0, none⟩) ∧ Aside0 (L.length ≤ c) ∧ Aside0 (Done w #[.int .i64 a0, .int .i64 a1, .slice A0 l0.length c0] #[.int .i64 b0, .int .i64 a1, .slice A1 l1.length c1] a0 a1 A c L g wx))
  case first =>
    go_region_held3 (fun W => W.cell? ⟨w.heap.size, 0, none⟩ = some (.int .i64 a0) ∧ W.cell? ⟨w.heap.size, 1, none⟩ = some (.int .i64 a1) ∧ W.cell? ⟨w.heap.size, 2, none⟩ = some (.slice A0 l0.length c0) ∧ W.cell? ⟨w.heap.size + 1, 0, none⟩ = some (.int .i64 b0) ∧ W.cell? ⟨w.heap.size + 1, 1, none⟩ = some (.int .i64 a1) ∧ W.cell? ⟨w.heap.size + 1, 2, none⟩ = some (.slice A1 l1.length c1))
      (first | go_keep | exact (BX.cells (by repeat (first | exact HX6.out | exact HX5.out | exact HX3.out | apply BX.alloc | apply BX.drew1 | (refine BX.set ?_ _ _ (by simp; omega))))))
      (first | (go_at_call 42; refine (repeat_calls 1073741824 ⟨_, 0, none⟩ 1 n hn2 _ (lit_at (by first | exact heap_alloc_new w3 _ | exact blk_alloc (heap_alloc_new w3 _) _ | exact heap_new1 w3 _ _))).mono ?_; rintro e w5 ⟨v5, rfl, hr5, hb5⟩; have HX5 := Aside0.mk (BX.step (by repeat (first | exact HX3.out | apply BX.alloc | apply BX.drew1)) hb5); rw [← HRp.out] at hr5; obtain ⟨A5, c5, rfl, hl5, hc5⟩ := Kd.R_reads hr5; have HC5 := Aside0.mk hc5; have HR5 := Aside0.mk hr5; have hz5 := hb5.size; obtain ⟨hd5, hf5⟩ := bcell hb5; simp only [World.size_alloc, World.size_drew] at hz5 hd5 hf5; have HB5 := Aside0.mk hb5; have hy5 : w3.heap.size < w5.heap.size := (by omega); have hx5 : w3.heap.size ≤ w5.heap.size := (by omega); (try (have hv5 : w3.heap.size + 1 < w5.heap.size := (by omega))); (try (have hu5 : w3.heap.size + 1 ≤ w5.heap.size := (by omega))); clear hc5 hr5 hb5)
             | (go_at_call 41; refine (concat_calls (some ⟨_, 0, none⟩) 3 [l0, R, l1] (by rw [hLf]; exact hL6) (by simp) _ ?_).mono ?_; (exact rows3 (A0 := A0) (A1 := A5) (A2 := A1) (t := 22) (by first | exact heap_alloc_new w5 _ | exact blk_alloc (heap_alloc_new w5 _) _ | exact heap_new1 w5 _ _) (by refine Kd.C_below HR0.out ?_; (repeat (first | exact HX5.out.below | apply below_alloc | apply below_drew))) (by refine Kd.C_below HC5.out ?_; (repeat (first | exact Below.refl _ _ | apply below_alloc | apply below_drew))) (by refine Kd.C_below HR1.out ?_; (repeat (first | exact HX5.out.below | apply below_alloc | apply below_drew))) hc0 hl5 hc1); rintro e w6 ⟨v6, rfl, hr6, hb6⟩; have HX6 := Aside0.mk (BX.step (by repeat (first | exact HX5.out | apply BX.alloc | apply BX.drew1)) hb6); rw [hLf] at hr6; obtain ⟨A6, c6, rfl, hl6, hc6⟩ := Kd.R_reads hr6; have HC6 := Aside0.mk hc6; have HR6 := Aside0.mk hr6; have hz6 := hb6.size; obtain ⟨hd6, hf6⟩ := bcell hb6; simp only [World.size_alloc, World.size_drew] at hz6 hd6 hf6; have HB6 := Aside0.mk hb6; clear hc6 hr6 hb6))
    all_goals (go_wp2_with fail; go_meet)
    all_goals refine ⟨_, A6, c6, rfl, ⟨hl6⟩, ⟨?_⟩⟩
    all_goals have hbase : w.heap.size ≤ w5.heap.size := (by omega)
    all_goals first
      | exact Done.of_alloc HX6.out HR6.out (by simp only [World.size_alloc, World.size_drew]; omega)
      | exact Done.of_set (blk_b HB6.out (heap_new1 w5 _ _)) HX6.out HR6.out (by simp only [World.size_alloc, World.size_drew]; omega) (by omega)
      | exact Done.of_set (blk_b HB6.out (blk_alloc (heap_alloc_new w5 _) _)) HX6.out HR6.out (by simp only [World.size_alloc, World.size_drew]; omega) (by omega)
      | exact Done.of_set (blk_b HB6.out (blk_alloc (blk_b HB5.out (heap_new1 w3 _ _)) _)) HX6.out HR6.out (by simp only [World.size_alloc, World.size_drew]; omega) (by omega)
      | exact Done.of_set (blk_b HB6.out (blk_alloc (blk_b HB5.out (blk_alloc (heap_alloc_new w3 _) _)) _)) HX6.out HR6.out (by simp only [World.size_alloc, World.size_drew]; omega) (by omega)
  case rest =>
    obtain ⟨g8, A, c, rfl, HLc, HD⟩ := hcut
    have m0 := (blk_cell HD.out.box 0).trans rfl
    have m1 := (blk_cell HD.out.box 1).trans rfl
    have m2 := (blk_cell HD.out.box 2).trans rfl
    go_wp2_with fail
    go_at_call 24
    refine (hV2.out A c HLc.out _ HD.out.reads).mono ?_
    rintro e w7 ⟨rfl, hb7⟩
    have HD7 := Aside0.mk (HD.out.step hb7)
    clear hb7 m0 m1 m2
    have m0 := (blk_cell HD7.out.box 0).trans rfl
    have m1 := (blk_cell HD7.out.box 1).trans rfl
    have m2 := (blk_cell HD7.out.box 2).trans rfl
    have z0 : w7.cell? ⟨w.heap.size + 1 + 1, 0, none⟩ = some (.int .i64 0) := (blk_cell HD7.out.bx.z 0).trans rfl
    have z1 : w7.cell? ⟨w.heap.size + 1 + 1, 1, none⟩ = some (.int .i64 0) := (blk_cell HD7.out.bx.z 1).trans rfl
    have z2 : w7.cell? ⟨w.heap.size + 1 + 1, 2, none⟩ = some (.slice none 0 0) := (blk_cell HD7.out.bx.z 2).trans rfl
    have f0 : w7.frozen? ⟨w.heap.size + 1 + 1, 0, none⟩ = false := blk_frozen HD7.out.bx.z 0
    have f1 : w7.frozen? ⟨w.heap.size + 1 + 1, 1, none⟩ = false := blk_frozen HD7.out.bx.z 1
    have f2 : w7.frozen? ⟨w.heap.size + 1 + 1, 2, none⟩ = false := blk_frozen HD7.out.bx.z 2
    go_wp2_with fail
    obtain ⟨q1, q2, q3⟩ := HD7.out.last
    exact bodyPost_ret (results_ct rfl _ _ (w.heap.size + 1 + 1) 24 _ (0, 0) _ rfl q1 Try.underlying24 rfl (by kernel_rfl)) rfl ⟨_, rfl, q2, q3⟩
end Go.Proofs.Ytklghejinlhjpaa.XJ
