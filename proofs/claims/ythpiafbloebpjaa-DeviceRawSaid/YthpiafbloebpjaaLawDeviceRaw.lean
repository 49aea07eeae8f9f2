/- This file proves that DeviceRaw holds of every device that a caller can hand over. -/
import Derived.Test.YthpiafbloebpjaaRows
import Derived.Test.YthpiafbloebpjaaXRawPure
import Derived.WalkKit
import Derived.ProofKit
import Derived.OpenShut
import Derived.ShutString
import Derived.ChangeOld
import Derived.Below
import Derived.SizedLaws
import Derived.Deep.SlicePairs
import Derived.Lib.SmallJoins
import Derived.Test.YthpiafbloebpjaaWSized
namespace Go.Proofs.Ythpiafbloebpjaa.deviceRaw
open Go.ChangeShapes Go.WideShapes Go.ChangeAt Go.RowKit
open Go.ChangeMaps (open_string shut_string)
open Go.Proofs.YthpiafbloebpjaaW.PrintWords
set_option linter.unusedVariables false
theorem own : ownKnob Try.prog.godebug = none := by kernel_rfl
theorem laidOut : laidOutB Try.prog = true := by kernel_rfl
section
variable {H : Type} {enc : TypeId × Value → H} {P : Program}
theorem weightsAll_mem {e : TypeId} : ∀ {ds : List (DataW H)} {d : DataW H}, d ∈ ds → ∀ n ∈ d.weights P e, n ∈ DataW.weightsAll P e ds
  | [], _, hd, _, _ => by cases hd
  | d0 :: ds, d, hd, n, hn => by
    simp only [DataW.weightsAll, List.mem_append]
    rcases List.mem_cons.1 hd with rfl | hd
    · exact Or.inl hn
    · exact Or.inr (weightsAll_mem hd n hn)
theorem w_len {t e : TypeId} (ht : P.underlying t = some (.slice e)) {elems spare : List (DataW H)} : (elems.length + spare.length) * P.bytesOf e ∈ (DataW.slice elems spare).weights P t := by
  simp [DataW.weights, ht]
theorem w_elem {t e : TypeId} (ht : P.underlying t = some (.slice e)) {elems spare : List (DataW H)} {d : DataW H} (hd : d ∈ elems) {n : Nat} (hn : n ∈ d.weights P e) : n ∈ (DataW.slice elems spare).weights P t := by
  simp only [DataW.weights, ht, List.mem_cons, List.mem_append]
  exact Or.inr (Or.inl (weightsAll_mem hd n hn))
theorem w_pair {t : TypeId} {f0 f1 : Field} (ht : P.underlying t = some (.struct #[f0, f1])) {a b : DataW H} {n : Nat} (h : n ∈ a.weights P f0.type ∨ n ∈ b.weights P f1.type) : n ∈ (DataW.agg [a, b]).weights P t := by
  simp [DataW.weights, ht, DataW.weightsEach]
  exact h
/-- A row of bytes: what it reads, and how long it may be. -/
theorem bytes_row {W : World} {n : Nat} {v : Value} {D : DataW H} {Pl : List MemPlace} (h : DataW.trod enc Try.prog W 0 (fun _ => true) true n 26 [v] = some (D, Pl)) (hw : ∀ m ∈ D.weights Try.prog 26, m ≤ reachBytes) :
    ∃ y : Option Addr × List Int × Nat, v = .slice y.1 y.2.1.length y.2.2 ∧ y.2.1.length ≤ y.2.2 ∧ Kd.C (Kd.int .u8) W y.1 y.2.1.length y.2.1 ∧ y.2.1.length ≤ 140737488351232 := by
  rcases open_ints Try.underlying26 Try.underlying5 (by kernel_rfl) h with ⟨hcs, _⟩ | ⟨x, l, c, zs, hcs, _, hl, hm, hz, hx, hcell, hwz⟩
  · simp at hcs
    subst hcs
    exact ⟨(none, [], 0), rfl, Nat.le_refl _, ⟨rfl, by simp, fun h => absurd h (by simp)⟩, by simp⟩
  · simp at hcs
    subst hcs
    simp only [if_true] at hz
    obtain ⟨l0, e0, hr0, hm0, hw0, hc0⟩ := ReadsInt.ofRowC (k := .u8) (w := W) (a := some x) (len := l) (cap := c) (zs := zs) (Or.inr ⟨x, rfl, hl, hm, by simpa using hz, hcell, hwz⟩)
    obtain ⟨hx, _⟩ := Prod.mk.inj hx
    have hb := hw _ (by rw [hx]; exact w_len Try.underlying26)
    rw [show Try.prog.bytesOf 5 = 1 by kernel_rfl, show reachBytes = 140737488351232 from rfl] at hb
    simp [lits] at hb
    subst e0
    exact ⟨(some x, l0, c), rfl, hc0, Kd.C_of_reads (d := (0 : Int)) (h1 := fun _ => rfl) hr0, by show l0.length ≤ _; omega⟩
end
set_option maxRecDepth 100000 in
theorem lifted (os : Os) (started : os.Started) (H : Type) (enc : TypeId × Value → H) :
    ReturnsInHanded {} Try.checked os 3 .any (Rows.deviceRawSpec.pre6 enc Try.prog Try.f3 Rows.deviceRawRow.domain false) (Rows.deviceRawSpec.post enc Try.prog Try.f3 false true false false) := by
  refine returnsInHanded_of_change_sized (C := Try.checked) own started (by kernel_rfl) Try.func3
    (ChangeSpec.witness6 (enc := enc) (C := Try.checked) false ⟨#[], #[.agg #[.slice none 0 0, .slice none 0 0], .int .i64 0, .slice none 0 0, .slice none 0 0, .int .i64 0], []⟩ 8 (by kernel_rfl) (by kernel_rfl) (by kernel_rfl) (by kernel_rfl)) ?_
  intro W base args ds gs before hval0 hW hcnd hsz0 _
  have hsz : (DataW.weightsEach Try.prog (Try.f3.params.toList ++ Rows.deviceRawSpec.plain.varTypes Try.prog) (ds ++ gs)).all (· ≤ reachBytes) = true := hsz0
  have hval : ∀ (j : Nat) t v, Try.f3.params[j]? = some t → args[j]? = some v → Value.okWide Try.prog W .any base t v := hval0
  have hW' := hW
  obtain ⟨p, q, hA0, hV, rfl, hfz, hnd⟩ := hW
  have hA : DataW.TrodAll enc Try.prog W 0 (fun _ => true) true Try.f3.params.toList args.toList ds p := hA0
  rw [Try.params3] at hA hval hsz
  obtain ⟨v0, vs0, d0, ds0, p0, q0, hargs, rfl, rfl, h0, r0⟩ := trodAll_cons hA
  obtain ⟨v1, vs1, d1, ds1, p1, q1, rfl, rfl, rfl, h1, r1⟩ := trodAll_cons r0
  obtain ⟨v2, vs2, d2, ds2, p2, q2, rfl, rfl, rfl, h2, r2⟩ := trodAll_cons r1
  obtain ⟨v3, vs3, d3, ds3, p3, q3, rfl, rfl, rfl, h3, r3⟩ := trodAll_cons r2
  obtain ⟨v4, vs4, d4, ds4, p4, q4, rfl, rfl, rfl, h4, r4⟩ := trodAll_cons r3
  obtain ⟨rfl, rfl, rfl⟩ := trodAll_nil r4
  obtain rfl : args = #[v0, v1, v2, v3, v4] := by cases args; simp_all
  obtain ⟨rfl, rfl⟩ := trodVars_none hV
  have k0 := h0
  have lt0 : ∀ x ∈ p0, x.block < W.heap.size := by obtain ⟨m, hm⟩ := k0; exact DataW.trod_lt m _ _ _ hm
  have hw0 : ∀ n ∈ d0.weights Try.prog 25, n ≤ reachBytes := fun n hn => by
    have := List.all_eq_true.1 hsz n (DataW.weights_mem_each (j := 0) (t := 25) (d := d0) rfl rfl n hn)
    simpa using this
  obtain ⟨u0, u1, y0, y1, n, rfl, rfl, hp0, g0, g1⟩ := Go.Joins.open_agg2 Try.underlying25 (by kernel_rfl) (by kernel_rfl) (hval 0 25 v0 rfl rfl) h0
  have hw00 : ∀ n ∈ y0.1.weights Try.prog 22, n ≤ reachBytes := fun n hn => hw0 n (w_pair Try.underlying25 (Or.inl hn))
  have hw01 : ∀ n ∈ y1.1.weights Try.prog 23, n ≤ reachBytes := fun n hn => hw0 n (w_pair Try.underlying25 (Or.inr hn))
  obtain ⟨A0, len0, cap0, P, rfl, rfl, hP, hPc, hPb, hPl⟩ : ∃ (A0 : Option Addr) (len0 cap0 : Nat) (P : List (List Int)), u0 = .slice A0 len0 cap0 ∧ len0 = P.length ∧ Kd.C (Kd.slice 5 (Kd.int .u8)) W A0 P.length P ∧ P.length ≤ cap0 ∧ (∀ p ∈ P, p.length ≤ 140737488351232) ∧ P.length ≤ 5864062014634 := by
    rcases Go.Deep.open_slice1 Try.underlying22 (by kernel_rfl) g0 with ⟨hcs, _⟩ | ⟨a, len, cap, m, n', V, D, Pl, hcs, _, hl, hm, hmm, hx, hcell⟩
    · simp at hcs
      obtain ⟨P, e, hC, hcap, hb⟩ := PDeviceSteps.pages_C (W := W) (A0 := none) (len := 0) (cap := 0) (Or.inl ⟨rfl, rfl, rfl⟩)
      exact ⟨none, 0, 0, P, hcs, e, hC, hcap, hb, by omega⟩
    · simp at hcs
      have hlm : len ≤ m := by rw [hmm]; split <;> omega
      obtain ⟨P, e, hC, hcap, hb⟩ := PDeviceSteps.pages_C (W := W) (A0 := some a) (len := len) (cap := cap) (Or.inr ⟨a, rfl, hl, hm, fun r hr => by
        obtain ⟨c1, t1⟩ := hcell r (by omega)
        obtain ⟨y, rfl', e2, e3, e4⟩ := bytes_row t1 (fun m' hm' => hw00 m' (by rw [hx]; exact w_elem Try.underlying22 (List.mem_map.2 ⟨r, List.mem_range.2 hr, rfl⟩) hm'))
        exact ⟨y, by rw [c1, rfl'], e2, e3, e4⟩⟩)
      refine ⟨some a, len, cap, P, hcs, e, hC, hcap, hb, ?_⟩
      have hb := hw00 _ (by rw [hx]; exact w_len Try.underlying22)
      rw [show Try.prog.bytesOf 26 = 24 by kernel_rfl, show reachBytes = 140737488351232 from rfl] at hb
      simp at hb
      omega
  obtain ⟨A1, len1, cap1, Q, rfl, rfl, hQ, hQc, hQb, hQl⟩ : ∃ (A1 : Option Addr) (len1 cap1 : Nat) (Q : List PDeviceSteps.S42), u1 = .slice A1 len1 cap1 ∧ len1 = Q.length ∧ Kd.C PDeviceSteps.k42 W A1 Q.length Q ∧ Q.length ≤ cap1 ∧ (∀ q ∈ Q, q.f1.length ≤ 140737488351232) ∧ Q.length ≤ 4398046510976 := by
    rcases Go.Deep.open_slice_pairs Try.underlying23 Try.underlying42 (by kernel_rfl) rfl rfl (by kernel_rfl) (by kernel_rfl) g1 with ⟨hcs, _⟩ | ⟨a, len, cap, m, n', V0, V1, D0, D1, P0, P1, hcs, _, hl, hm, hmm, hx, hcell⟩
    · simp at hcs
      obtain ⟨Q, e, hC, hcap, hb⟩ := PDeviceSteps.pend_C (W := W) (A0 := none) (len := 0) (cap := 0) (Or.inl ⟨rfl, rfl, rfl⟩)
      exact ⟨none, 0, 0, Q, hcs, e, hC, hcap, hb, by omega⟩
    · simp at hcs
      have hlm : len ≤ m := by rw [hmm]; split <;> omega
      obtain ⟨Q, e, hC, hcap, hb⟩ := PDeviceSteps.pend_C (W := W) (A0 := some a) (len := len) (cap := cap) (Or.inr ⟨a, rfl, hl, hm, fun r hr => by
        obtain ⟨c0, c1, t0, t1⟩ := hcell r (by omega)
        obtain ⟨n0, g0', _, f0⟩ := DataW.trod_int Try.underlying3 t0
        rw [List.cons.injEq] at g0'
        obtain ⟨y, rfl', e2, e3, e4⟩ := bytes_row t1 (fun m' hm' => hw01 m' (by rw [hx]; exact w_elem Try.underlying23 (List.mem_map.2 ⟨r, List.mem_range.2 hr, rfl⟩) (w_pair Try.underlying42 (Or.inr hm'))))
        exact ⟨(n0, y), by rw [c0, g0'.1], by rw [c1, rfl'], e2, e3, e4⟩⟩)
      refine ⟨some a, len, cap, Q, hcs, e, hC, hcap, hb, ?_⟩
      have hb := hw01 _ (by rw [hx]; exact w_len Try.underlying23)
      rw [show Try.prog.bytesOf 42 = 32 by kernel_rfl, show reachBytes = 140737488351232 from rfl] at hb
      simp at hb
      omega
  obtain ⟨a1, rfl, rfl, rfl, w1⟩ := open_int Try.underlying3 (hval 1 3 v1 rfl rfl) h1
  obtain ⟨A2, len2, cap2, rfl⟩ := okWide_slice Try.underlying26 (hval 2 26 v2 rfl rfl)
  have k2 := h2
  have lt2 : ∀ x ∈ p2, x.block < W.heap.size := by obtain ⟨m, hm⟩ := k2; exact DataW.trod_lt m _ _ _ hm
  obtain ⟨b, rfl, hb, cb⟩ : ∃ b : List Int, len2 = b.length ∧ Kd.C (Kd.int .u8) W A2 b.length b ∧ b.length ≤ cap2 := by
    obtain ⟨fuel, hf⟩ := h2
    rcases open_ints Try.underlying26 Try.underlying5 (by kernel_rfl) hf with ⟨hcs, _⟩ | ⟨x, l, c, zs, hcs, _, hl, hm, hz, _, hcell, hwz⟩
    · simp [Value.cells] at hcs
      obtain ⟨rfl, rfl, rfl⟩ := hcs
      exact ⟨[], rfl, ⟨rfl, by simp, fun h => absurd h (by simp)⟩, Nat.le_refl _⟩
    · simp [Value.cells] at hcs
      obtain ⟨rfl, rfl, rfl⟩ := hcs
      obtain ⟨l0, e0, hr0, hm0, hw0, hc0⟩ := ReadsInt.ofRowC (k := .u8) (w := W) (Or.inr ⟨x, rfl, hl, hm, by simpa using hz, hcell, hwz⟩)
      exact ⟨l0, e0, Kd.C_of_reads (d := (0 : Int)) (h1 := fun _ => rfl) (e0 ▸ hr0), hc0⟩
  obtain ⟨A3, len3, cap3, rfl⟩ := okWide_slice Try.underlying27 (hval 3 27 v3 rfl rfl)
  have k3 := h3
  have lt3 : ∀ x ∈ p3, x.block < W.heap.size := by obtain ⟨m, hm⟩ := k3; exact DataW.trod_lt m _ _ _ hm
  obtain ⟨keep, rfl, hk, ck⟩ : ∃ b : List Int, len3 = b.length ∧ Kd.C (Kd.int .i64) W A3 b.length b ∧ b.length ≤ cap3 := by
    obtain ⟨fuel, hf⟩ := h3
    rcases open_ints Try.underlying27 Try.underlying3 (by kernel_rfl) hf with ⟨hcs, _⟩ | ⟨x, l, c, zs, hcs, _, hl, hm, hz, _, hcell, hwz⟩
    · simp [Value.cells] at hcs
      obtain ⟨rfl, rfl, rfl⟩ := hcs
      exact ⟨[], rfl, ⟨rfl, by simp, fun h => absurd h (by simp)⟩, Nat.le_refl _⟩
    · simp [Value.cells] at hcs
      obtain ⟨rfl, rfl, rfl⟩ := hcs
      obtain ⟨l0, e0, hr0, hm0, hw0, hc0⟩ := ReadsInt.ofRowC (k := .i64) (w := W) (Or.inr ⟨x, rfl, hl, hm, by simpa using hz, hcell, hwz⟩)
      exact ⟨l0, e0, Kd.C_of_reads (d := (0 : Int)) (h1 := fun _ => rfl) (e0 ▸ hr0), hc0⟩
  obtain ⟨a4, rfl, rfl, rfl, w4⟩ := open_int Try.underlying3 (hval 4 3 v4 rfl rfl) h4
  clear hA0 hval0 hsz0 hsz
  refine (PDeviceSteps.raw_calls A0 cap0 P A1 cap1 Q a1 A2 cap2 b A3 cap3 keep a4 W hP hPc hQ hQc hb cb hk ck ⟨hPl, hQl, hPb, hQb⟩).mono fun e W' ⟨he, bel⟩ => ?_
  subst he
  exact ⟨_, rfl, _, _, _, [], _, [], hW', trodAll_mk1 (shut_bool Try.underlying4 _), (trodAll_cons_mk (Below.trod laidOut (by kernel_rfl) (of_decide_eq_true (by kernel_rfl)) k0 bel lt0) (trodAll_cons_mk (shut_int Try.underlying3 w1) (trodAll_cons_mk (Below.trod laidOut (by kernel_rfl) (of_decide_eq_true (by kernel_rfl)) k2 bel lt2) (trodAll_cons_mk (Below.trod laidOut (by kernel_rfl) (of_decide_eq_true (by kernel_rfl)) k3 bel lt3) (trodAll_cons_mk (shut_int Try.underlying3 w4) trodAll_mk0))))), rfl, bel.frame _, fun h => by cases h⟩
theorem over : Rows.deviceRawRow.holds Try.pinned (OpenSpec.ofChange Rows.deviceRawSpec) :=
  OpenClaim.holds_of_wide 3 Try.f3 rfl rfl rfl rfl rfl rfl rfl ⟨rfl, rfl, rfl, rfl, rfl⟩ rfl rfl rfl rfl rfl (by kernel_rfl) Try.func3 (by kernel_rfl)
    (of_decide_eq_true (by kernel_rfl)) (by unfold Func.isWrapper; first | (rw [if_pos (by decide +kernel)]; kernel_rfl) | (rw [if_neg (by decide +kernel)]; exact ⟨rfl, rfl⟩))
    (fun os started H enc _ => lifted os started H enc)
theorem proved : Rows.DeviceRawSaid := over
#print axioms proved
end Go.Proofs.Ythpiafbloebpjaa.deviceRaw
namespace Go.Proofs.Ythpiafbloebpjaa
/-- The row, under a short name, for the claim. -/
theorem deviceRaw_holds : Rows.DeviceRawSaid := deviceRaw.proved
end Go.Proofs.Ythpiafbloebpjaa
