/- This file proves what a conversion of a constant string to bytes leaves: the translator lays a literal's row and converts it to its own type, which marks the place behind its last cell. -/
import Derived.Test.YtdnhfofmfpgmmaaXWords
import Derived.Lib.SlBytesConst
set_option linter.unusedVariables false
set_option linter.unusedSimpArgs false
namespace Go.Proofs.YtdnhfofmfpgmmaaW.PrintWords
open Go.RowKit
section
variable {P : Program} {ops : Array Oper} {rest : List Oper} {o o2 : Oper} {a : Act} {Q : Exit → Act → World → Prop}
theorem cell_marked (W : World) (C : Array Value) (e j n : Nat) (x : Value) (h : C[j]? = some x) : (W.alloc (.cells C e (n, n + 1))).cell? ⟨W.heap.size, j, none⟩ = some x := by
  have h1 : (W.alloc (.cells C e (n, n + 1))).heap[W.heap.size]? = some (.cells C e (n, n + 1)) := by
    show (W.heap.push _)[W.heap.size]? = _
    simp
  unfold World.cell?
  simp only [h1]
  simpa using h
/-- Between the literal and its conversion. -/
def LitAt (W w1 : World) (A : Option Addr) (c e : Nat) (xs : List Int) : Prop := A = some ⟨W.heap.size, 0, none⟩ ∧ c = xs.length ∧ w1 = W.alloc (.cells (xs.map (Value.int .u8)).toArray e)
theorem lit_only {W : World} (e : Nat) (hgd : o.guard = none) {xs ys : List Int} {inner : List Value} (hy : xs = ys) (hin : ys.map (Value.int .u8) = inner)
    (hrun : (execOp a.eval o).run P W = .ok (.value (.slice (some ⟨W.heap.size, 0, none⟩) ys.length ys.length)) (W.alloc (.cells inner.toArray e)))
    (h : ∀ A c w1, LitAt W w1 A c e xs → wpList P ops Q rest (a.put o.dst (.slice A xs.length c)) w1) : wpList P ops Q (o :: rest) a W := by
  subst hy hin
  exact Kd.event_run hgd hrun (h _ _ _ ⟨rfl, rfl, rfl⟩)
/-- A slice that has no room behind its end. -/
def LitFull (A : Option Addr) (c : Nat) (xs : List Int) : Prop := (∃ g, A = some ⟨g, 0, none⟩) ∧ c = xs.length
theorem conv_only {W w1 : World} {A : Option Addr} {c e : Nat} {xs : List Int} (hl : LitAt W w1 A c e xs) (T : Nat) (hgd : o.guard = none) {x : Operand} (hop : o.op = .convert T T x)
    (ht : P.underlying T = some (.slice e)) (he : P.underlying e = some (.int .u8))
    (htm : a.eval x = .slice A xs.length c) (hm : xs.length ≤ 9223372036854775807)
    (h : ∀ w2, LitFull A c xs → xs.length ≤ c → (Kd.int .u8).C w2 A xs.length xs → Below W.heap.size W w2 → wpList P ops Q rest (a.put o.dst (.slice A xs.length c)) w2) : wpList P ops Q (o :: rest) a w1 := by
  obtain ⟨rfl, rfl, rfl⟩ := hl
  have hs : (xs.map (Value.int .u8)).toArray.size = xs.length := by simp
  refine Kd.event_run hgd (w1 := W.alloc (.cells (xs.map (Value.int .u8)).toArray e (xs.length, xs.length + 1))) ?_ (h _ ⟨⟨_, rfl⟩, rfl⟩ (Nat.le_refl _) ?_ (below_alloc (Below.refl _ _) _))
  · have hc := Lib.run_convert_bytes_const (P := P) W T e (xs.map (Value.int .u8)).toArray xs.length xs.length ht he
    rw [hs] at hc
    unfold execOp
    rw [hop]
    simp only [htm]
    simp [hc]
  · refine Kd.C_of_reads (d := 0) ⟨rfl, hm, fun hn => ⟨_, rfl, fun j hj => ?_⟩⟩
    have : (Addr.add ⟨W.heap.size, 0, none⟩ j) = ⟨W.heap.size, j, none⟩ := by simp [Addr.add] <;> omega
    rw [this]
    refine cell_marked W _ e j _ _ ?_
    simp [List.getElem?_eq_getElem hj, List.getD_eq_getElem?_getD]
/-- A row of rows that has just been laid. -/
def LitRow (w1 : World) (A : Option Addr) (inner : List Value) (e : Nat) : Prop := ∃ g, A = some ⟨g, 0, none⟩ ∧ w1.heap[g]? = some (.cells inner.toArray e (0, 0))
theorem lit_seen {α : Type} {W : World} (e : Nat) (hgd : o.guard = none) {xs ys : List α} {inner : List Value} (hy : xs = ys)
    (hrun : (execOp a.eval o).run P W = .ok (.value (.slice (some ⟨W.heap.size, 0, none⟩) ys.length ys.length)) (W.alloc (.cells inner.toArray e)))
    (h : ∀ A c w1, xs.length ≤ c → LitRow w1 A inner e → Below W.heap.size W w1 → wpList P ops Q rest (a.put o.dst (.slice A xs.length c)) w1) : wpList P ops Q (o :: rest) a W := by
  subst hy
  exact Kd.event_run hgd hrun (h _ _ _ (Nat.le_refl _) ⟨_, rfl, heap_alloc_new W _⟩ (below_alloc (Below.refl _ _) _))
theorem lit_C {α : Type} (d : Kd α) {w1 : World} {A : Option Addr} {inner : List Value} {e : Nat} {xs : List α} (h : LitRow w1 A inner e) (hrep : Reps (d.K w1) d.sz xs inner) (hm : xs.length ≤ 9223372036854775807) : d.C w1 A xs.length xs := by
  obtain ⟨g, rfl, hg⟩ := h
  refine ⟨rfl, hm, fun _ => ⟨_, rfl, fun j p hj => ⟨(inner.drop (j * d.sz)).take d.sz, ?_, hrep.2 j p hj, fun i u hu => ?_⟩⟩⟩
  · have hl := (List.getElem?_eq_some_iff.1 hj).1
    have h1 := hrep.1
    rw [List.length_take, List.length_drop, h1]
    have : (j + 1) * d.sz ≤ xs.length * d.sz := Nat.mul_le_mul_right _ hl
    rw [Nat.add_mul, Nat.one_mul] at this
    omega
  · rw [add_plain, blk_cell hg]
    have hi := (List.getElem?_eq_some_iff.1 hu).1
    rw [List.length_take] at hi
    rw [List.getElem?_take, if_pos (by omega), List.getElem?_drop] at hu
    simpa using hu
theorem cells_of_C {W : World} {k : IntKind} {A : Option Addr} {xs : List Int} (h : (Kd.int k).C W A xs.length xs) : ∀ ad, A = some ad → ∀ j u, (nums k xs)[j]? = some u → W.cell? (ad.add j) = some u := by
  intro ad hA j u hu
  have hj : j < xs.length := by
    rcases Nat.lt_or_ge j xs.length with h | h
    · exact h
    · simp [nums, List.getElem?_eq_none h] at hu
  obtain ⟨ad', h', hc⟩ := (Kd.reads_of_C (enc := Value.int k) (d := (0 : Int)) h).2.2 (by omega)
  rw [hA] at h'
  injection h' with h'
  subst h'
  have := hc j (by omega)
  simp [nums, List.getElem?_eq_getElem hj] at hu
  subst hu
  rw [this]
  simp [List.getD_eq_getElem?_getD, List.getElem?_eq_getElem hj]
theorem app_lit {W : World} {k : IntKind} {bytes : Nat} {xs ys : List Int} {A A2 : Option Addr} {c c2 : Nat} (s x : Operand) (t e : TypeId)
    (ho : o.op = .call { callee := .builtin .append, args := #[s, x], argTypes := #[t, t] })
    (ht : P.underlying t = some (.slice e)) (hinfo : (P.info? e).map (fun i => (i.zero, i.size, i.bytes)) = some (some (.int k 0), 1, bytes))
    (hf : LitFull A c xs) (hX : (Kd.int k).C W A xs.length xs) (hY : (Kd.int k).C W A2 ys.length ys) (hs : a.eval s = .slice A xs.length c) (hx : a.eval x = .slice A2 ys.length c2)
    (hl : (xs.length + ys.length) * bytes ≤ 140737488355328 ∧ 0 < bytes ∧ o.guard = none)
    (h : ∀ A' c' w1, (xs ++ ys).length ≤ c' → (Kd.int k).C w1 A' (xs ++ ys).length (xs ++ ys) → Below W.heap.size W w1 → wpList P ops Q rest (a.put o.dst (.slice A' (xs ++ ys).length c')) w1) : wpList P ops Q (o :: rest) a W := by
  obtain ⟨hl, hb0, hgd⟩ := hl
  obtain ⟨⟨g, rfl⟩, rfl⟩ := hf
  obtain ⟨i0, hi, hzz⟩ := Option.map_eq_some_iff.1 hinfo
  simp only [Prod.mk.injEq] at hzz
  obtain ⟨hz0, hz1, hz2⟩ := hzz
  have hlen : xs.length + ys.length ≤ 140737488355328 := Nat.le_trans (Nat.le_mul_of_pos_right _ hb0) hl
  by_cases hys : ys.length = 0
  · obtain rfl : ys = [] := List.eq_nil_of_length_eq_zero hys
    have hrun : (Builtin.append_ #[t, t] o.type #[.slice (some ⟨g, 0, none⟩) xs.length xs.length, .slice A2 0 c2]).run P W = .ok (.slice (some ⟨g, 0, none⟩) xs.length xs.length) W := by
      cases A2 with
      | none => simp [Builtin.append_, run_underlying ht, sizeOf, typeInfo, hi, Builtin.lenOf, Builtin.firstCells, storeCells]
      | some ad => simp [Builtin.append_, run_underlying ht, sizeOf, typeInfo, hi, Builtin.lenOf, Builtin.firstCells, storeCells, loadCells, loadCellsFrom]
    refine wpList_plain hgd fun K hK => ?_
    unfold Oper.wp execOp
    simp only [ho, resolve, invoke, builtin, Sem.run_bind, Sem.run_pure, Result.andThen_ok, List.map_toArray, List.map_cons, List.map_nil, hs, hx, List.length_nil, hrun]
    refine hK _ _ ?_
    have := h (some ⟨g, 0, none⟩) xs.length W (by simp) (by rw [List.append_nil]; exact hX) (Below.refl _ _)
    rw [List.append_nil] at this
    exact this
  · obtain ⟨ad, hA2, _⟩ := hY.2.2 (by omega)
    subst hA2
    have hnl : (nums k ys).length = ys.length * 1 := by simp [nums]
    refine wpList_append_arg W hgd s x t ho e i0 (.int k 0) 1 bytes ht hi hz0 hz1 hz2 rfl (by omega) g 0 xs.length xs.length (nums k xs) hs (by simp [nums]) (fun j u hu => ?_) ad ys.length c2 (nums k ys) hx hnl (cells_of_C hY ad rfl) ?_ (fun hc => by omega) (by simp only [maxLen]; omega) hl (fun hc => by omega) (fun _ v' w' hown hg => ?_)
    · have := cells_of_C hX _ rfl j u hu
      rw [add_plain] at this
      rw [Nat.zero_add]
      exact this
    · intro u hu
      simp only [nums, List.mem_map] at hu
      obtain ⟨q, _, rfl⟩ := hu
      rfl
    · have hR : (Kd.int k).R e w' W.heap.size (fun _ => True) v' (xs ++ ys) := Kd.R_of_own (by rw [List.length_append]; simpa [nums, encs] using hown) (fun _ _ => trivial)
      obtain ⟨A', c', he, hl', hC'⟩ := Kd.R_reads hR
      rw [he]
      exact h A' c' w' hl' hC' ((Below.refl _ W).grown hg (Nat.le_refl _) (fun k_ hk => by cases hk))
theorem far_cut {A0 A1 : Option Addr} {c m k g n n0 : Nat} (hA : A1 = if c = m then A0 else A0.map (·.add k)) (hn : 0 < n → 0 < n0) (h : ∀ ad, A0 = some ad → 0 < n0 → ad.block ≠ g) : ∀ ad, A1 = some ad → 0 < n → ad.block ≠ g := by
  intro ad he h0
  rw [hA] at he
  split at he
  · exact h ad he (hn h0)
  · cases A0 with
    | none => cases he
    | some a0 =>
      injection he with he
      subst he
      rw [add_block]
      exact h a0 rfl (hn h0)
theorem lit_far {W w1 : World} {A : Option Addr} {c e g : Nat} {xs : List Int} (h : LitAt W w1 A c e xs) (hg : g < W.heap.size) : ∀ ad, A = some ad → 0 < xs.length → ad.block ≠ g := by
  intro ad he _
  obtain ⟨hA, _⟩ := h
  rw [hA] at he
  injection he with he
  subst he
  show W.heap.size ≠ g
  omega
end
end Go.Proofs.YtdnhfofmfpgmmaaW.PrintWords
