/- This file proves what the steps of a device and of its reference hand back, for any device. -/
import Derived.Test.YthpiafbloebpjaaBase
import Derived.Test.YthpiafbloebpjaaPDeviceStepsx5
import Derived.Test.YthpiafbloebpjaaPDeviceStepsx6
import Derived.Test.YthpiafbloebpjaaPDeviceStepsx8
import Derived.Test.YthpiafbloebpjaaPDeviceStepsx9
set_option linter.unusedVariables false
set_option linter.unusedSimpArgs false
namespace Go.Proofs.Ythpiafbloebpjaa.PDeviceSteps
open Go.RowKit Go.Proofs.YthpiafbloebpjaaW.PrintWords Go.Proofs.YthpiafbloebpjaaW.PrintLast Go.Proofs.YthpiafbloebpjaaW.PrintMore Go.Proofs.Ythpiafbloebpjaa.Base
theorem dw_succ {i : Nat} (h : i ≤ 4611686018427387904) : wrap64 ((i : Int) + 1) = ((i + 1 : Nat) : Int) := by rw [w64 (by omega) (by omega)]; omega
theorem L1_nat (P : List (List Int)) (i : Nat) (h : i < P.length) : rd_L1 P (i : Int) = P[i] := by
  unfold rd_L1
  rw [Int.toNat_natCast, List.getD_eq_getElem?_getD, List.getElem?_eq_getElem h]
  rfl
theorem T_nat (Q : List S42) (i : Nat) (h : i < Q.length) : rd_T42 Q (i : Int) = Q[i] := by
  unfold rd_T42
  rw [Int.toNat_natCast, List.getD_eq_getElem?_getD, List.getElem?_eq_getElem h]
  rfl
theorem padl_self (l : List Int) : XD.padl l l.length = l := by unfold XD.padl; simp
theorem padl_full (l : List Int) (m : Nat) (h : l.length = m) : XD.padl l m = l := by rw [← h]; exact padl_self l
theorem padded_is (l : List Int) (m : Nat) (hm : m ≤ 140737488351232) : device_padded.f l (m : Int) = some (XD.padl l m) := by
  unfold device_padded.f
  rw [if_pos (by omega), Int.toNat_natCast]
theorem rd_padl (l : List Int) (m b : Nat) (hb : b < m) : rd (XD.padl l m) (b : Int) = if b < l.length then rd l (b : Int) else 0 := by
  show rd (l.take m ++ List.replicate (m - l.length) 0) (b : Int) = _
  have hl : b < (l.take m ++ List.replicate (m - l.length) (0 : Int)).length := by rw [List.length_append, List.length_take, List.length_replicate]; omega
  rw [rd_nat _ b hl]
  by_cases h : b < l.length
  · rw [if_pos h, rd_nat l b h, List.getElem_append_left (by rw [List.length_take]; omega), List.getElem_take]
  · rw [if_neg h, List.getElem_append_right (by rw [List.length_take]; omega), List.getElem_replicate]
/-- A valid device. -/
structure DevOk (P : List (List Int)) (Q : List S42) : Prop where
  lo : 1 ≤ P.length
  hi : P.length ≤ 256
  pages : ∀ p ∈ P, p.length = 64
  few : Q.length ≤ 300
  pend : ∀ q ∈ Q, 0 ≤ q.f0 ∧ q.f0 < (P.length : Int) ∧ q.f1.length = 64
theorem copied_l1 (P : List (List Int)) (Q : List S42) (hq : Q.length ≤ 4398046510976) (hb : ∀ q ∈ Q, q.f1.length ≤ 140737488351232) (d : Nat) : ∀ i : Nat, i + d = Q.length →
    Ev (fun k => device_copied.l1 k Q (Q.length : Int) (i : Int) P (Q.take i)) (P, Q) := by
  induction d with
  | zero =>
    intro i hi
    refine Ev.step (fun k => by rw [device_copied.l1]) (Ev.neg (by omega) ?_)
    rw [List.take_of_length_le (by omega)]
    exact Ev.now _
  | succ d ih =>
    intro i hi
    have hlt : i < Q.length := by omega
    refine Ev.step (fun k => by rw [device_copied.l1]) (Ev.pos (by omega) (Ev.pos (by omega) (Ev.pos (by omega) ?_)))
    rw [T_nat Q i hlt, padded_is _ _ (hb _ (List.getElem_mem hlt)), padl_self]
    simp only [Option.bind_some]
    refine Ev.pos (by rw [List.length_take]; omega) ?_
    have e := ih (i + 1) (by omega)
    rw [List.take_succ_eq_append_getElem hlt] at e
    rw [dw_succ (by omega)]
    exact e
theorem copied_l0 (P : List (List Int)) (Q : List S42) (hp : P.length ≤ 5864062014634) (hq : Q.length ≤ 4398046510976) (ha : ∀ p ∈ P, p.length ≤ 140737488351232) (hb : ∀ q ∈ Q, q.f1.length ≤ 140737488351232) (d : Nat) : ∀ i : Nat, i + d = P.length →
    Ev (fun k => device_copied.l0 k P (P.length : Int) (i : Int) P Q (P.take i)) (P, Q) := by
  induction d with
  | zero =>
    intro i hi
    refine Ev.step (fun k => by rw [device_copied.l0]) (Ev.neg (by omega) ?_)
    rw [List.take_of_length_le (by omega)]
    exact copied_l1 P Q hq hb Q.length 0 (by omega)
  | succ d ih =>
    intro i hi
    have hlt : i < P.length := by omega
    refine Ev.step (fun k => by rw [device_copied.l0]) (Ev.pos (by omega) (Ev.pos (by omega) (Ev.pos (by omega) ?_)))
    rw [L1_nat P i hlt, padded_is _ _ (ha _ (List.getElem_mem hlt)), padl_self]
    simp only [Option.bind_some]
    refine Ev.pos (by rw [List.length_take]; omega) ?_
    have e := ih (i + 1) (by omega)
    rw [List.take_succ_eq_append_getElem hlt] at e
    rw [dw_succ (by omega)]
    exact e
theorem copied_is (P : List (List Int)) (Q : List S42) (hp : P.length ≤ 5864062014634) (hq : Q.length ≤ 4398046510976) (ha : ∀ p ∈ P, p.length ≤ 140737488351232) (hb : ∀ q ∈ Q, q.f1.length ≤ 140737488351232) : Ev (fun k => device_copied.f k P Q) (P, Q) := by
  unfold device_copied.f
  exact copied_l0 P Q hp hq ha hb P.length 0 (by omega)
theorem DevOk.copied {P : List (List Int)} {Q : List S42} (h : DevOk P Q) : Ev (fun k => device_copied.f k P Q) (P, Q) :=
  copied_is P Q (by have := h.hi; omega) (by have := h.few; omega) (fun p hp => by have := h.pages p hp; omega) (fun q hq => by have := (h.pend q hq).2.2; omega)
theorem valid_l1 {P : List (List Int)} {Q : List S42} (h : DevOk P Q) (d : Nat) : ∀ i : Nat, i + d = Q.length → Ev (fun k => device_Valid.l1 k Q (Q.length : Int) (i : Int) P Q) true := by
  have hq := h.few
  induction d with
  | zero =>
    intro i hi
    exact Ev.step (fun k => by rw [device_Valid.l1]) (Ev.neg (by omega) (Ev.now _))
  | succ d ih =>
    intro i hi
    have hlt : i < Q.length := by omega
    obtain ⟨q1, q2, q3⟩ := h.pend _ (List.getElem_mem hlt)
    refine Ev.step (fun k => by rw [device_Valid.l1]) (Ev.pos (by omega) (Ev.pos (by omega) (Ev.pos (by omega) ?_)))
    rw [T_nat Q i hlt, dw_succ (by omega)]
    exact Ev.neg (by omega) (Ev.neg (by omega) (Ev.pos (by omega) (ih (i + 1) (by omega))))
theorem valid_l0 {P : List (List Int)} {Q : List S42} (h : DevOk P Q) (d : Nat) : ∀ i : Nat, i + d = P.length → Ev (fun k => device_Valid.l0 k P (P.length : Int) (i : Int) P Q) true := by
  have hp := h.hi
  induction d with
  | zero =>
    intro i hi
    refine Ev.step (fun k => by rw [device_Valid.l0]) (Ev.neg (by omega) ?_)
    exact valid_l1 h Q.length 0 (by omega)
  | succ d ih =>
    intro i hi
    have hlt : i < P.length := by omega
    have h64 := h.pages _ (List.getElem_mem hlt)
    refine Ev.step (fun k => by rw [device_Valid.l0]) (Ev.pos (by omega) (Ev.pos (by omega) (Ev.pos (by omega) ?_)))
    rw [L1_nat P i hlt, dw_succ (by omega)]
    exact Ev.pos (by omega) (ih (i + 1) (by omega))
theorem DevOk.valid {P : List (List Int)} {Q : List S42} (h : DevOk P Q) : Ev (fun k => device_Valid.f k P Q) true := by
  have h1 := h.lo
  have h2 := h.hi
  have h3 := h.few
  unfold device_Valid.f
  refine Ev.neg (by omega) (Ev.neg (by omega) ?_)
  rw [decide_eq_false (by omega)]
  refine Ev.step (fun k => by rw [device_Valid.j0]) (Ev.neg (by decide) ?_)
  exact valid_l0 h P.length 0 (by omega)
theorem DevOk.checked {P : List (List Int)} {Q : List S42} (h : DevOk P Q) (page : Int) (h0 : 0 ≤ page) (h1 : page < (P.length : Int)) : Ev (fun k => device_checked.f k P Q page) 0 := by
  unfold device_checked.f
  exact Ev.bind h.valid (Ev.pos rfl (Ev.neg (by omega) (Ev.neg (by omega) (Ev.now _))))
theorem DevOk.write {P : List (List Int)} {Q : List S42} (h : DevOk P Q) (page : Int) (h0 : 0 ≤ page) (h1 : page < (P.length : Int)) (b : List Int) (hb : b.length ≤ 64) (hf : Q.length < 300) :
    Ev (fun k => device_Write.f k P Q page b) (P, Q ++ [(⟨page, XD.padl b 64⟩ : S42)], 0) := by
  unfold device_Write.f
  refine Ev.bind h.copied (Ev.bind (h.checked page h0 h1) (Ev.pos rfl (Ev.neg (by omega) (Ev.neg (by omega) ?_))))
  have e := padded_is b 64 (by decide)
  rw [show ((64 : Nat) : Int) = 64 from rfl] at e
  rw [e]
  simp only [Option.bind_some]
  exact Ev.pos (by omega) (Ev.now _)
theorem DevOk.wrote {P : List (List Int)} {Q : List S42} (h : DevOk P Q) (page : Int) (h0 : 0 ≤ page) (h1 : page < (P.length : Int)) (b : List Int) (hf : Q.length < 300) : DevOk P (Q ++ [(⟨page, XD.padl b 64⟩ : S42)]) :=
  ⟨h.lo, h.hi, h.pages, by rw [List.length_append]; simp; omega, fun q hq => by
    rcases List.mem_append.1 hq with hq | hq
    · exact h.pend q hq
    · rw [List.mem_singleton] at hq
      subst hq
      exact ⟨h0, h1, XD.padl_len _ _⟩⟩
/-- What a page holds, pending writes and all. -/
def curQ (p : List Int) (page : Int) (Q : List S42) : List Int := Q.foldl (fun b q => if q.f0 = page then q.f1 else b) p
theorem read_l0 (P : List (List Int)) (page : Int) (Q : List S42) (hq : Q.length ≤ 1000) (h64 : ∀ q ∈ Q, q.f1.length = 64) (d : Nat) : ∀ (i : Nat) (b : List Int), b.length = 64 → i + d = Q.length →
    Ev (fun k => device_Read.l0 k page b Q (Q.length : Int) (i : Int)) (curQ b page (Q.drop i), 0) := by
  induction d with
  | zero =>
    intro i b hb hi
    refine Ev.step (fun k => by rw [device_Read.l0]) (Ev.neg (by omega) ?_)
    have e := padded_is b 64 (by decide)
    rw [show ((64 : Nat) : Int) = 64 from rfl, padl_full b 64 hb] at e
    rw [e, List.drop_eq_nil_of_le (by omega)]
    exact Ev.now _
  | succ d ih =>
    intro i b hb hi
    have hlt : i < Q.length := by omega
    refine Ev.step (fun k => by rw [device_Read.l0]) (Ev.pos (by omega) (Ev.pos (by omega) (Ev.pos (by omega) ?_)))
    rw [T_nat Q i hlt, dw_succ (by omega), List.drop_eq_getElem_cons hlt]
    by_cases h : Q[i].f0 = page
    · have e := ih (i + 1) Q[i].f1 (h64 _ (List.getElem_mem hlt)) (by omega)
      refine Ev.pos h ?_
      rw [curQ, List.foldl_cons, if_pos h]
      exact e
    · refine Ev.neg h ?_
      rw [curQ, List.foldl_cons, if_neg h]
      exact ih (i + 1) b hb (by omega)
theorem DevOk.read {P : List (List Int)} {Q : List S42} (h : DevOk P Q) (page : Nat) (h1 : page < P.length) : Ev (fun k => device_Read.f k P Q (page : Int)) (curQ P[page] (page : Int) Q, 0) := by
  unfold device_Read.f
  refine Ev.bind (h.checked _ (by omega) (by omega)) (Ev.pos rfl (Ev.pos (by omega) (Ev.pos (by omega) ?_)))
  rw [L1_nat P page h1]
  have e := read_l0 P (page : Int) Q (by have := h.few; omega) (fun q hq => (h.pend q hq).2.2) Q.length 0 P[page] (h.pages _ (List.getElem_mem h1)) (by omega)
  rw [List.drop_zero] at e
  exact e
theorem DevOk.fits {P : List (List Int)} {Q : List S42} (h : DevOk P Q) : fit P Q = true := by
  unfold fit
  simp only [Bool.and_eq_true, List.all_eq_true, beq_iff_eq, decide_eq_true_eq]
  exact ⟨⟨h.pages, by have := h.few; omega⟩, fun q hq => ⟨⟨(h.pend q hq).1, (h.pend q hq).2.1⟩, (h.pend q hq).2.2⟩⟩
theorem DevOk.crash {P : List (List Int)} {Q : List S42} (h : DevOk P Q) (keep : List Int) : Ev (fun k => device_Crash.f k P Q keep) (carr (XD.keepAt keep) Q P Q.length, [], 0) := by
  unfold device_Crash.f
  exact Ev.bind h.copied (Ev.bind h.valid (Ev.pos rfl (Ev.pos h.fits (Ev.now _))))
theorem DevOk.flush {P : List (List Int)} {Q : List S42} (h : DevOk P Q) : Ev (fun k => device_Flush.f k P Q) (carr (fun _ => 64) Q P Q.length, [], 0) := by
  unfold device_Flush.f
  exact Ev.bind h.copied (Ev.bind h.valid (Ev.pos rfl (Ev.pos h.fits (Ev.now _))))
theorem DevOk.carried {P : List (List Int)} {Q : List S42} (h : DevOk P Q) (n : Nat → Int) (hn : ∀ i, 0 ≤ n i ∧ n i ≤ 64) : DevOk (carr n Q P Q.length) [] :=
  ⟨by rw [carr_len]; exact h.lo, by rw [carr_len]; exact h.hi, carr_64 n Q P h.pages hn (fit_is h.fits).2.2 _ (Nat.le_refl _), by simp, fun q hq => by cases hq⟩
theorem new_l0 (n : Nat) (hn : n ≤ 256) (d : Nat) : ∀ i : Nat, i + d = n → Ev (fun k => device_New.l0 k (n : Int) (i : Int) (List.replicate i (List.replicate 64 0))) (List.replicate n (List.replicate 64 0), [], 0) := by
  induction d with
  | zero =>
    intro i hi
    obtain rfl : i = n := by omega
    exact Ev.step (fun k => by rw [device_New.l0]) (Ev.neg (by omega) (Ev.now _))
  | succ d ih =>
    intro i hi
    refine Ev.step (fun k => by rw [device_New.l0]) (Ev.pos (by omega) (Ev.pos (by decide) (Ev.pos (by rw [List.length_replicate]; omega) ?_)))
    have e := ih (i + 1) (by omega)
    rw [List.replicate_succ'] at e
    rw [dw_succ (by omega)]
    exact e
theorem new_is (n : Nat) (h1 : 1 ≤ n) (h2 : n ≤ 256) : Ev (fun k => device_New.f k (n : Int)) (List.replicate n (List.replicate 64 0), [], 0) := by
  unfold device_New.f
  refine Ev.neg (by omega) ?_
  rw [decide_eq_false (by omega)]
  refine Ev.step (fun k => by rw [device_New.j0]) (Ev.neg (by decide) ?_)
  exact new_l0 n h2 n 0 (by omega)
theorem DevOk.new (n : Nat) (h1 : 1 ≤ n) (h2 : n ≤ 256) : DevOk (List.replicate n (List.replicate 64 0)) [] :=
  ⟨by rw [List.length_replicate]; exact h1, by rw [List.length_replicate]; exact h2, fun p hp => by rw [List.eq_of_mem_replicate hp, List.length_replicate], by simp, fun q hq => by cases hq⟩
theorem same_l1 (P : List (List Int)) (Q : List S42) (hq : Q.length ≤ 4398046510976) (d : Nat) : ∀ i : Nat, i + d = Q.length → Ev (fun k => shapesearchref24_Same.l1 k (i : Int) P Q P Q) true := by
  induction d with
  | zero =>
    intro i hi
    exact Ev.step (fun k => by rw [shapesearchref24_Same.l1]) (Ev.neg (by omega) (Ev.now _))
  | succ d ih =>
    intro i hi
    refine Ev.step (fun k => by rw [shapesearchref24_Same.l1]) (Ev.pos (by omega) (Ev.pos (by omega) (Ev.pos (by omega) (Ev.pos rfl (Ev.pos rfl ?_)))))
    rw [dw_succ (by omega)]
    exact ih (i + 1) (by omega)
theorem same_l0 (P : List (List Int)) (Q : List S42) (hp : P.length ≤ 5864062014634) (hq : Q.length ≤ 4398046510976) (d : Nat) : ∀ i : Nat, i + d = P.length → Ev (fun k => shapesearchref24_Same.l0 k (i : Int) P Q P Q) true := by
  induction d with
  | zero =>
    intro i hi
    refine Ev.step (fun k => by rw [shapesearchref24_Same.l0]) (Ev.neg (by omega) ?_)
    exact same_l1 P Q hq Q.length 0 (by omega)
  | succ d ih =>
    intro i hi
    refine Ev.step (fun k => by rw [shapesearchref24_Same.l0]) (Ev.pos (by omega) (Ev.pos (by omega) (Ev.pos (by omega) (Ev.pos rfl ?_))))
    rw [dw_succ (by omega)]
    exact ih (i + 1) (by omega)
theorem same_self (P : List (List Int)) (Q : List S42) (hp : P.length ≤ 5864062014634) (hq : Q.length ≤ 4398046510976) : Ev (fun k => shapesearchref24_Same.f k P Q P Q) true := by
  unfold shapesearchref24_Same.f
  refine Ev.pos rfl ?_
  rw [show ((Q.length : Int) != (Q.length : Int)) = false by simp]
  refine Ev.step (fun k => by rw [shapesearchref24_Same.j0]) (Ev.neg (by decide) ?_)
  exact same_l0 P Q hp hq P.length 0 (by omega)
theorem awake_is : Ev (fun k => shapesearchlaw24_awake.f k) true := by
  have d0 := DevOk.new 2 (by decide) (by decide)
  have e0 := new_is 2 (by decide) (by decide)
  have e1 := d0.write 1 (by decide) (by rw [List.length_replicate]; decide) [1, 2] (by decide) (by decide)
  have d1 := d0.wrote 1 (by decide) (by rw [List.length_replicate]; decide) [1, 2] (by decide)
  have e2 := d1.crash [1]
  have d2 := d1.carried (XD.keepAt [1]) (keepAt_range [1])
  have e3 := d2.read 1 (by rw [carr_len, List.length_replicate]; decide)
  unfold shapesearchlaw24_awake.f
  refine Ev.bind e0 (Ev.bind e1 (Ev.bind e2 (Ev.bind e3 ?_)))
  refine Ev.pos rfl (Ev.pos rfl (Ev.pos rfl (Ev.pos rfl (Ev.pos (by decide) (Ev.pos (by decide) (Ev.pos (by decide) (Ev.pos (by decide) ?_)))))))
  exact Ev.now true
/-! ### what the functions of both packages answer, for any device -/
def validB (P : List (List Int)) (Q : List S42) : Bool := decide (1 ≤ P.length ∧ P.length ≤ 256 ∧ Q.length ≤ 300) && (P.all (fun p => p.length == 64) && Q.all (fun q => decide (0 ≤ q.f0) && (decide (q.f0 < (P.length : Int)) && (q.f1.length == 64))))
theorem validB_ok {P : List (List Int)} {Q : List S42} (h : validB P Q = true) : DevOk P Q := by
  unfold validB at h
  simp only [Bool.and_eq_true, List.all_eq_true, beq_iff_eq, decide_eq_true_eq] at h
  obtain ⟨⟨h1, h2, h3⟩, h4, h5⟩ := h
  exact ⟨h1, h2, h4, h3, h5⟩
theorem DevOk.validB {P : List (List Int)} {Q : List S42} (h : DevOk P Q) : validB P Q = true := by
  unfold PDeviceSteps.validB
  simp only [Bool.and_eq_true, List.all_eq_true, beq_iff_eq, decide_eq_true_eq]
  exact ⟨⟨h.lo, h.hi, h.few⟩, h.pages, h.pend⟩
/-- Lengths that a machine may have. -/
def Fit2 (P : List (List Int)) (Q : List S42) : Prop := P.length ≤ 5864062014634 ∧ Q.length ≤ 4398046510976 ∧ (∀ p ∈ P, p.length ≤ 140737488351232) ∧ ∀ q ∈ Q, q.f1.length ≤ 140737488351232
theorem DevOk.fit2 {P : List (List Int)} {Q : List S42} (h : DevOk P Q) : Fit2 P Q := ⟨by have := h.hi; omega, by have := h.few; omega, fun p hp => by have := h.pages p hp; omega, fun q hq => by have := (h.pend q hq).2.2; omega⟩
theorem vl1 (P : List (List Int)) (Q : List S42) (hq : Q.length ≤ 4398046510976) (d : Nat) : ∀ i : Nat, i + d = Q.length →
    Ev (fun k => device_Valid.l1 k Q (Q.length : Int) (i : Int) P Q) ((Q.drop i).all (fun q => decide (0 ≤ q.f0) && (decide (q.f0 < (P.length : Int)) && (q.f1.length == 64)))) := by
  induction d with
  | zero =>
    intro i hi
    refine Ev.step (fun k => by rw [device_Valid.l1]) (Ev.neg (by omega) ?_)
    rw [List.drop_eq_nil_of_le (by omega)]
    exact Ev.now _
  | succ d ih =>
    intro i hi
    have hlt : i < Q.length := by omega
    refine Ev.step (fun k => by rw [device_Valid.l1]) (Ev.pos (by omega) (Ev.pos (by omega) (Ev.pos (by omega) ?_)))
    rw [T_nat Q i hlt, dw_succ (by omega), List.drop_eq_getElem_cons hlt, List.all_cons]
    by_cases c1 : Q[i].f0 < 0
    · rw [decide_eq_false (show ¬ 0 ≤ Q[i].f0 by omega)]
      exact Ev.pos c1 (Ev.now _)
    · refine Ev.neg c1 ?_
      rw [decide_eq_true (show 0 ≤ Q[i].f0 by omega)]
      by_cases c2 : Q[i].f0 ≥ (P.length : Int)
      · rw [decide_eq_false (show ¬ Q[i].f0 < (P.length : Int) by omega)]
        exact Ev.pos c2 (Ev.now _)
      · refine Ev.neg c2 ?_
        rw [decide_eq_true (show Q[i].f0 < (P.length : Int) by omega)]
        by_cases c3 : Q[i].f1.length = 64
        · rw [beq_iff_eq.2 c3]
          exact Ev.pos (by omega) (ih (i + 1) (by omega))
        · rw [beq_eq_false_iff_ne.2 c3]
          exact Ev.neg (by omega) (Ev.now _)
theorem vl0 (P : List (List Int)) (Q : List S42) (hp : P.length ≤ 5864062014634) (hq : Q.length ≤ 4398046510976) (d : Nat) : ∀ i : Nat, i + d = P.length →
    Ev (fun k => device_Valid.l0 k P (P.length : Int) (i : Int) P Q) ((P.drop i).all (fun p => p.length == 64) && Q.all (fun q => decide (0 ≤ q.f0) && (decide (q.f0 < (P.length : Int)) && (q.f1.length == 64)))) := by
  induction d with
  | zero =>
    intro i hi
    refine Ev.step (fun k => by rw [device_Valid.l0]) (Ev.neg (by omega) ?_)
    rw [List.drop_eq_nil_of_le (by omega)]
    exact vl1 P Q hq Q.length 0 (by omega)
  | succ d ih =>
    intro i hi
    have hlt : i < P.length := by omega
    refine Ev.step (fun k => by rw [device_Valid.l0]) (Ev.pos (by omega) (Ev.pos (by omega) (Ev.pos (by omega) ?_)))
    rw [L1_nat P i hlt, dw_succ (by omega), List.drop_eq_getElem_cons hlt, List.all_cons]
    by_cases c : P[i].length = 64
    · rw [beq_iff_eq.2 c, Bool.true_and]
      exact Ev.pos (by omega) (ih (i + 1) (by omega))
    · rw [beq_eq_false_iff_ne.2 c, Bool.false_and]
      exact Ev.neg (by omega) (Ev.now _)
theorem valid_ev (P : List (List Int)) (Q : List S42) (h : Fit2 P Q) : Ev (fun k => device_Valid.f k P Q) (validB P Q) := by
  unfold device_Valid.f validB
  by_cases c1 : P.length < 1
  · rw [show decide (1 ≤ P.length ∧ P.length ≤ 256 ∧ Q.length ≤ 300) = false from decide_eq_false (by omega), Bool.false_and]
    refine Ev.pos (by omega) ?_
    refine Ev.step (fun k => by rw [device_Valid.j0]) ?_
    exact Ev.pos rfl (Ev.now _)
  refine Ev.neg (by omega) ?_
  by_cases c2 : P.length > 256
  · rw [show decide (1 ≤ P.length ∧ P.length ≤ 256 ∧ Q.length ≤ 300) = false from decide_eq_false (by omega), Bool.false_and]
    refine Ev.pos (by omega) ?_
    refine Ev.step (fun k => by rw [device_Valid.j0]) ?_
    exact Ev.pos rfl (Ev.now _)
  refine Ev.neg (by omega) ?_
  by_cases c3 : Q.length > 300
  · rw [show decide ((Q.length : Int) > 300) = true from decide_eq_true (by omega)]
    rw [show decide (1 ≤ P.length ∧ P.length ≤ 256 ∧ Q.length ≤ 300) = false from decide_eq_false (by omega), Bool.false_and]
    refine Ev.step (fun k => by rw [device_Valid.j0]) ?_
    exact Ev.pos rfl (Ev.now _)
  rw [show decide ((Q.length : Int) > 300) = false from decide_eq_false (by omega), show decide (1 ≤ P.length ∧ P.length ≤ 256 ∧ Q.length ≤ 300) = true from decide_eq_true (by omega), Bool.true_and]
  refine Ev.step (fun k => by rw [device_Valid.j0]) (Ev.neg (by decide) ?_)
  exact vl0 P Q h.1 h.2.1 P.length 0 (by omega)
theorem rl1 (P : List (List Int)) (Q : List S42) (hq : Q.length ≤ 4398046510976) (d : Nat) : ∀ i : Nat, i + d = Q.length →
    Ev (fun k => shapesearchref24_Valid.l1 k (i : Int) P Q) ((Q.drop i).all (fun q => decide (0 ≤ q.f0) && (decide (q.f0 < (P.length : Int)) && (q.f1.length == 64)))) := by
  induction d with
  | zero =>
    intro i hi
    refine Ev.step (fun k => by rw [shapesearchref24_Valid.l1]) (Ev.neg (by omega) ?_)
    rw [List.drop_eq_nil_of_le (by omega)]
    exact Ev.now _
  | succ d ih =>
    intro i hi
    have hlt : i < Q.length := by omega
    refine Ev.step (fun k => by rw [shapesearchref24_Valid.l1]) (Ev.pos (by omega) (Ev.pos (by omega) ?_))
    rw [T_nat Q i hlt, dw_succ (by omega), List.drop_eq_getElem_cons hlt, List.all_cons]
    by_cases c1 : Q[i].f0 < 0
    · rw [decide_eq_false (show ¬ 0 ≤ Q[i].f0 by omega)]
      exact Ev.pos c1 (Ev.now _)
    · refine Ev.neg c1 ?_
      rw [decide_eq_true (show 0 ≤ Q[i].f0 by omega)]
      by_cases c2 : Q[i].f0 ≥ (P.length : Int)
      · rw [decide_eq_false (show ¬ Q[i].f0 < (P.length : Int) by omega)]
        exact Ev.pos c2 (Ev.now _)
      · refine Ev.neg c2 ?_
        rw [decide_eq_true (show Q[i].f0 < (P.length : Int) by omega)]
        by_cases c3 : Q[i].f1.length = 64
        · rw [beq_iff_eq.2 c3]
          exact Ev.pos (by omega) (ih (i + 1) (by omega))
        · rw [beq_eq_false_iff_ne.2 c3]
          exact Ev.neg (by omega) (Ev.now _)
theorem rl0 (P : List (List Int)) (Q : List S42) (hp : P.length ≤ 5864062014634) (hq : Q.length ≤ 4398046510976) (d : Nat) : ∀ i : Nat, i + d = P.length →
    Ev (fun k => shapesearchref24_Valid.l0 k (i : Int) P Q) ((P.drop i).all (fun p => p.length == 64) && Q.all (fun q => decide (0 ≤ q.f0) && (decide (q.f0 < (P.length : Int)) && (q.f1.length == 64)))) := by
  induction d with
  | zero =>
    intro i hi
    refine Ev.step (fun k => by rw [shapesearchref24_Valid.l0]) (Ev.neg (by omega) ?_)
    rw [List.drop_eq_nil_of_le (by omega)]
    exact rl1 P Q hq Q.length 0 (by omega)
  | succ d ih =>
    intro i hi
    have hlt : i < P.length := by omega
    refine Ev.step (fun k => by rw [shapesearchref24_Valid.l0]) (Ev.pos (by omega) (Ev.pos (by omega) ?_))
    rw [L1_nat P i hlt, dw_succ (by omega), List.drop_eq_getElem_cons hlt, List.all_cons]
    by_cases c : P[i].length = 64
    · rw [beq_iff_eq.2 c, Bool.true_and]
      exact Ev.pos (by omega) (ih (i + 1) (by omega))
    · rw [beq_eq_false_iff_ne.2 c, Bool.false_and]
      exact Ev.neg (by omega) (Ev.now _)
theorem rvalid_ev (P : List (List Int)) (Q : List S42) (h : Fit2 P Q) : Ev (fun k => shapesearchref24_Valid.f k P Q) (validB P Q) := by
  unfold shapesearchref24_Valid.f validB
  by_cases c1 : P.length < 1
  · rw [show decide (1 ≤ P.length ∧ P.length ≤ 256 ∧ Q.length ≤ 300) = false from decide_eq_false (by omega), Bool.false_and]
    refine Ev.pos (by omega) ?_
    refine Ev.step (fun k => by rw [shapesearchref24_Valid.j0]) ?_
    exact Ev.pos rfl (Ev.now _)
  refine Ev.neg (by omega) ?_
  by_cases c2 : P.length > 256
  · rw [show decide (1 ≤ P.length ∧ P.length ≤ 256 ∧ Q.length ≤ 300) = false from decide_eq_false (by omega), Bool.false_and]
    refine Ev.pos (by omega) ?_
    refine Ev.step (fun k => by rw [shapesearchref24_Valid.j0]) ?_
    exact Ev.pos rfl (Ev.now _)
  refine Ev.neg (by omega) ?_
  by_cases c3 : Q.length > 300
  · rw [show decide ((Q.length : Int) > 300) = true from decide_eq_true (by omega)]
    rw [show decide (1 ≤ P.length ∧ P.length ≤ 256 ∧ Q.length ≤ 300) = false from decide_eq_false (by omega), Bool.false_and]
    refine Ev.step (fun k => by rw [shapesearchref24_Valid.j0]) ?_
    exact Ev.pos rfl (Ev.now _)
  rw [show decide ((Q.length : Int) > 300) = false from decide_eq_false (by omega), show decide (1 ≤ P.length ∧ P.length ≤ 256 ∧ Q.length ≤ 300) = true from decide_eq_true (by omega), Bool.true_and]
  refine Ev.step (fun k => by rw [shapesearchref24_Valid.j0]) (Ev.neg (by decide) ?_)
  exact rl0 P Q h.1 h.2.1 P.length 0 (by omega)
theorem rc1 (P : List (List Int)) (Q : List S42) (hq : Q.length ≤ 4398046510976) (hb : ∀ q ∈ Q, q.f1.length ≤ 140737488351232) (d : Nat) : ∀ i : Nat, i + d = Q.length →
    Ev (fun k => shapesearchref24_Copy.l1 k (i : Int) P Q P (Q.take i)) (P, Q) := by
  induction d with
  | zero =>
    intro i hi
    refine Ev.step (fun k => by rw [shapesearchref24_Copy.l1]) (Ev.neg (by omega) ?_)
    rw [List.take_of_length_le (by omega)]
    exact Ev.now _
  | succ d ih =>
    intro i hi
    have hlt : i < Q.length := by omega
    have hbi := hb _ (List.getElem_mem hlt)
    refine Ev.step (fun k => by rw [shapesearchref24_Copy.l1]) (Ev.pos (by omega) (Ev.pos (by omega) ?_))
    simp only [Option.bind_some]
    rw [T_nat Q i hlt, dw_succ (by omega)]
    refine Ev.pos (by simp; omega) (Ev.pos (by rw [List.length_take]; omega) ?_)
    have e := ih (i + 1) (by omega)
    rw [List.take_succ_eq_append_getElem hlt] at e
    exact e
theorem rc0 (P : List (List Int)) (Q : List S42) (hp : P.length ≤ 5864062014634) (hq : Q.length ≤ 4398046510976) (ha : ∀ p ∈ P, p.length ≤ 140737488351232) (hb : ∀ q ∈ Q, q.f1.length ≤ 140737488351232) (d : Nat) : ∀ i : Nat, i + d = P.length →
    Ev (fun k => shapesearchref24_Copy.l0 k (i : Int) P Q (P.take i)) (P, Q) := by
  induction d with
  | zero =>
    intro i hi
    refine Ev.step (fun k => by rw [shapesearchref24_Copy.l0]) (Ev.neg (by omega) ?_)
    rw [List.take_of_length_le (by omega)]
    exact rc1 P Q hq hb Q.length 0 (by omega)
  | succ d ih =>
    intro i hi
    have hlt : i < P.length := by omega
    have hai := ha _ (List.getElem_mem hlt)
    refine Ev.step (fun k => by rw [shapesearchref24_Copy.l0]) (Ev.pos (by omega) ?_)
    simp only [Option.bind_some]
    rw [L1_nat P i hlt, dw_succ (by omega)]
    refine Ev.pos (by omega) (Ev.pos (by simp; omega) (Ev.pos (by rw [List.length_take]; omega) ?_))
    have e := ih (i + 1) (by omega)
    rw [List.take_succ_eq_append_getElem hlt] at e
    exact e
theorem rcopy_ev (P : List (List Int)) (Q : List S42) (h : Fit2 P Q) : Ev (fun k => shapesearchref24_Copy.f k P Q) (P, Q) := by
  unfold shapesearchref24_Copy.f
  exact rc0 P Q h.1 h.2.1 h.2.2.1 h.2.2.2 P.length 0 (by omega)
/-- A device that is read. -/
structure Dv (W : World) (A0 : Option Addr) (c0 : Nat) (P : List (List Int)) (A1 : Option Addr) (c1 : Nat) (Q : List S42) : Prop where
  hp : Kd.C (Kd.slice 5 (Kd.int .u8)) W A0 P.length P
  cp : P.length ≤ c0
  hq : Kd.C k42 W A1 Q.length Q
  cq : Q.length ≤ c1
theorem Dv.below {W W1 : World} {A0 A1 : Option Addr} {c0 c1 : Nat} {P : List (List Int)} {Q : List S42} (h : Dv W A0 c0 P A1 c1 Q) (hb : Below W.heap.size W W1) : Dv W1 A0 c0 P A1 c1 Q := ⟨Kd.C_below h.hp hb, h.cp, Kd.C_below h.hq hb, h.cq⟩
theorem Dv.of_S {W : World} {A0 A1 : Option Addr} {n0 n1 c0 c1 base base' : Nat} {ok ok' : Nat → Prop} {P : List (List Int)} {Q : List S42} (h0 : Kd.S (Kd.slice 5 (Kd.int .u8)) 26 W base ok (.slice A0 n0 c0) P) (h1 : Kd.S k42 42 W base' ok' (.slice A1 n1 c1) Q) : n0 = P.length ∧ n1 = Q.length ∧ Dv W A0 c0 P A1 c1 Q := by
  obtain ⟨e0, l0, r0⟩ := Kd.R_reads' (Kd.S_R h0)
  obtain ⟨e1, l1, r1⟩ := Kd.R_reads' (Kd.S_R h1)
  exact ⟨e0, e1, r0, by omega, r1, by omega⟩
/-- What a step of the reference hands back: the device that came in, or one of its own. -/
def DvRes (W w' : World) (A0 : Option Addr) (c0 : Nat) (P : List (List Int)) (A1 : Option Addr) (c1 : Nat) (Q : List S42) (v0 v1 : Value) (P' : List (List Int)) (Q' : List S42) : Prop :=
  (v0 = .slice A0 P.length c0 ∧ v1 = .slice A1 Q.length c1 ∧ P' = P ∧ Q' = Q) ∨ (Kd.S (Kd.slice 5 (Kd.int .u8)) 26 w' W.heap.size (fun _ => True) v0 P' ∧ Kd.S k42 42 w' W.heap.size (fun _ => True) v1 Q')
set_option maxHeartbeats 8000000 in
set_option maxRecDepth 100000 in
theorem rcrash_yes (keep : List Int) (Ak : Option Addr) (ck : Nat) (k : Nat) (A0_0 : Option Addr) (c0_0 : Nat) (l0_0 : List (List Int)) (A0_1 : Option Addr) (c0_1 : Nat) (l0_1 : List (S42)) (P : List (List Int)) (Q : List (S42)) (w : World)
    (hr0_0 : Kd.C (Kd.slice 5 (Kd.int .u8)) w A0_0 l0_0.length l0_0) (hc0_0 : l0_0.length ≤ c0_0) (hr0_1 : Kd.C k42 w A0_1 l0_1.length l0_1) (hc0_1 : l0_1.length ≤ c0_1) (hrk : Kd.C (Kd.int .i64) w Ak keep.length keep)
    (hcop : shapesearchref24_Copy.f k l0_0 l0_1 = some (P, Q)) (hval : shapesearchref24_Valid.f k l0_0 l0_1 = some true) (hP : ∀ p ∈ P, p.length = 64) (hQl : Q.length ≤ 1000)
    (hQ : ∀ k, k < Q.length → 0 ≤ (rd_T42 Q (k : Int)).f0 ∧ (rd_T42 Q (k : Int)).f0 < (P.length : Int) ∧ (rd_T42 Q (k : Int)).f1.length = 64) :
    Calls Try.prog 12 #[.agg #[.slice A0_0 l0_0.length c0_0, .slice A0_1 l0_1.length c0_1], .slice Ak keep.length ck] w fun e w' => ∃ v0_ : Value, e = .returned (.tuple #[.agg #[v0_, .slice none 0 0], .int .i64 0]) ∧ Kd.S (Kd.slice 5 (Kd.int .u8)) 26 w' w.heap.size (fun _ => True) v0_ (carr (XD.keepAt keep) Q P Q.length) ∧ Below w.heap.size w w' := by
  obtain ⟨n, hnk⟩ : ∃ n, n = XD.keepAt keep := ⟨_, rfl⟩
  have hn : ∀ i, 0 ≤ n i ∧ n i ≤ 64 := by rw [hnk]; exact keepAt_range keep
  rw [← hnk]
  have HNK := Aside0.mk hnk
  have HRK := Aside0.mk hrk
  clear hnk hrk
  have HCOP := fun W (hb : Below w.heap.size w W) => shapesearchref24_Copy.calls2 k A0_0 c0_0 l0_0 A0_1 c0_1 l0_1 P Q W (Kd.C_below hr0_0 hb) hc0_0 (Kd.C_below hr0_1 hb) hc0_1 hcop
  have HVAL := fun W (hb : Below w.heap.size w W) => shapesearchref24_Valid.calls k A0_0 c0_0 l0_0 A0_1 c0_1 l0_1 true W (Kd.C_below hr0_0 hb) hc0_0 (Kd.C_below hr0_1 hb) hc0_1 hval
  have hC := Aside0.mk HCOP
  have hV := Aside0.mk HVAL
  have HP := Aside0.mk hP
  have HQ := Aside0.mk hQ
  have HN := Aside0.mk hn
  clear HCOP HVAL hr0_0 hr0_1 hcop hval hP hQ hn
  go_enter Try.func12, Try.ntmps12
  go_upto_region 1 with (fail)
  have HB0 := Aside0.mk (show Below w.heap.size w ((w.alloc (.cells #[.slice A0_0 l0_0.length c0_0, .slice A0_1 l0_1.length c0_1] 25)).alloc (.cells #[.slice none 0 0, .slice none 0 0] 25)) from ((Below.refl w.heap.size w).alloc (Nat.le_refl _) _).alloc (by simp) _)
  have HK2 := Aside0.mk (show ((w.alloc (.cells #[.slice A0_0 l0_0.length c0_0, .slice A0_1 l0_1.length c0_1] 25)).alloc (.cells #[.slice none 0 0, .slice none 0 0] 25)).heap[w.heap.size]? = some (.cells #[.slice A0_0 l0_0.length c0_0, .slice A0_1 l0_1.length c0_1] 25 (0, 0)) from blk_alloc (heap_alloc_new w _) _)
  have HK4 := Aside0.mk (show ((w.alloc (.cells #[.slice A0_0 l0_0.length c0_0, .slice A0_1 l0_1.length c0_1] 25)).alloc (.cells #[.slice none 0 0, .slice none 0 0] 25)).heap[w.heap.size + 1]? = some (.cells #[.slice none 0 0, .slice none 0 0] 25 (0, 0)) from by
    have := heap_alloc_new (w.alloc (.cells #[.slice A0_0 l0_0.length c0_0, .slice A0_1 l0_1.length c0_1] 25)) (.cells #[.slice none 0 0, .slice none 0 0] 25)
    rwa [World.size_alloc] at this)
  generalize ((w.alloc (.cells #[.slice A0_0 l0_0.length c0_0, .slice A0_1 l0_1.length c0_1] 25)).alloc (.cells #[.slice none 0 0, .slice none 0 0] 25)) = W0 at HB0 HK2 HK4 ⊢
  have k0 : W0.cell? ⟨w.heap.size, 0, none⟩ = some (.slice A0_0 l0_0.length c0_0) := (blk_cell HK2.out 0).trans rfl
  have k1 : W0.cell? ⟨w.heap.size, 1, none⟩ = some (.slice A0_1 l0_1.length c0_1) := (blk_cell HK2.out 1).trans rfl
  go_wp2_with fail
  go_at_call 20
  refine (hV.out _ HB0.out).mono ?_
  rintro e w9 ⟨rfl, hb9⟩
  have HB9 := Aside0.mk (below_step HB0.out hb9)
  have HK2a := Aside0.mk (blk_below HK2.out hb9)
  have HK4a := Aside0.mk (blk_below HK4.out hb9)
  clear hb9 k0 k1 HK2 HK4 HB0
  have k0 : w9.cell? ⟨w.heap.size, 0, none⟩ = some (.slice A0_0 l0_0.length c0_0) := (blk_cell HK2a.out 0).trans rfl
  have k1 : w9.cell? ⟨w.heap.size, 1, none⟩ = some (.slice A0_1 l0_1.length c0_1) := (blk_cell HK2a.out 1).trans rfl
  go_wp2_with fail
  go_at_call 21
  refine (hC.out _ HB9.out).mono ?_
  rintro e w1 ⟨v0_, v1_, rfl, mid, hmid, hp, hq, hb1⟩
  obtain ⟨Ap, cp, rfl⟩ := Kd.S_slice hp
  obtain ⟨Aq, cq, rfl⟩ := Kd.S_slice hq
  have HB1 := Aside0.mk (below_step HB9.out hb1)
  have HK4b := Aside0.mk (blk_below HK4a.out hb1)
  have HP1 := Aside0.mk (Kd.S_lower hp (below_size HB9.out))
  have HQ1 := Aside0.mk hq
  have HM := Aside0.mk (Nat.le_trans (below_size HB9.out) hmid)
  have h4 := blk_lt HK4b.out
  clear hb1 hp hq hmid k0 k1 HK2a HK4a HB9
  go_upto_region 4 with (fail)
  have hCH : CarrH w (w1.alloc (.cells #[.slice Ap P.length cp, .slice Aq Q.length cq] 25)) mid Ap P.length cp P Aq cq Q (w.heap.size + 1) w1.heap.size :=
    ⟨HB1.out.alloc HB1.out.size _, HM.out, Kd.S_alloc HP1.out _, Kd.S_alloc HQ1.out _, Nat.le_succ _, blk_alloc HK4b.out _, HB1.out.size, heap_alloc_new w1 _, Nat.ne_of_lt h4⟩
  have HC2 := Aside0.mk hCH
  clear hCH HK4b HP1 HQ1 HM h4 HB1
  generalize (w1.alloc (.cells #[.slice Ap P.length cp, .slice Aq Q.length cq] 25)) = W1 at HC2 ⊢
  generalize w1.heap.size = g6 at HC2 ⊢
  obtain ⟨g4, hg4⟩ : ∃ g4, g4 = w.heap.size + 1 := ⟨_, rfl⟩
  rw [← hg4] at HC2 ⊢
  clear hg4
  go_wp2_with fail
  go_loopg [7] Q.length (fun g s7 wx => ∃ i : Nat, i + g = Q.length ∧ s7 = .int .i64 i ∧ Aside0 (CarrH w wx mid Ap P.length cp (carr n Q P i) Aq cq Q g4 g6))
  case atStart => exact ⟨0, by omega, rfl, ⟨HC2.out⟩⟩
  case round =>
    clear HC2
    obtain ⟨i, hi, rfl, HC⟩ := hrel
    cases gk with
    | zero =>
      obtain rfl : i = Q.length := by omega
      obtain ⟨Pi, hPi⟩ : ∃ Pi, Pi = carr n Q P Q.length := ⟨_, rfl⟩
      rw [← hPi] at HC
      have HPe := Aside0.mk hPi
      clear hPi
      have k0 : wr.cell? ⟨g6, 0, none⟩ = some (.slice Ap P.length cp) := (blk_cell HC.out.b6 0).trans rfl
      have k1 : wr.cell? ⟨g6, 1, none⟩ = some (.slice Aq Q.length cq) := (blk_cell HC.out.b6 1).trans rfl
      have f1 : wr.frozen? ⟨g6, 1, none⟩ = false := blk_frozen HC.out.b6 1
      have f0 : wr.frozen? ⟨g6, 0, none⟩ = false := blk_frozen HC.out.b6 0
      have z0 : wr.cell? ⟨g4, 0, none⟩ = some (.slice none 0 0) := (blk_cell HC.out.b4 0).trans rfl
      have z1 : wr.cell? ⟨g4, 1, none⟩ = some (.slice none 0 0) := (blk_cell HC.out.b4 1).trans rfl
      have y0 : wr.frozen? ⟨g4, 0, none⟩ = false := blk_frozen HC.out.b4 0
      have y1 : wr.frozen? ⟨g4, 1, none⟩ = false := blk_frozen HC.out.b4 1
      have hne := HC.out.ne
      have hne' := hne.symm
      go_wp2_with fail
      obtain ⟨e1, e2, e3⟩ := HC.out.last
      rw [HPe.out] at e2
      exact bodyPost_ret (results_ct rfl _ _ g4 25 _ (0, 0) _ rfl e1 Try.underlying25 rfl (by kernel_rfl)) rfl ⟨_, rfl, e2, e3⟩
    | succ g =>
      have hlt : i < Q.length := by omega
      have hlt' : (i : Int) < (Q.length : Int) := by omega
      have h0 : 0 ≤ (i : Int) := by omega
      obtain ⟨z, hz⟩ : ∃ z, z = n i := ⟨_, rfl⟩
      have hz01 := HN.out i
      rw [← hz] at hz01
      have HZ := Aside0.mk hz
      obtain ⟨hz0, hz1⟩ := hz01
      have hzk : z = XD.keepAt keep i := by rw [hz, HNK.out]
      have HZK := Aside0.mk hzk
      clear hz hzk
      have k1 : wr.cell? ⟨g6, 1, none⟩ = some (.slice Aq Q.length cq) := (blk_cell HC.out.b6 1).trans rfl
      go_upto_if 25 with (fail)
      go_cut [8] (fun v8 wc => v8 = .int .i64 z ∧ wc = wr)
      case first =>
        by_cases hik : (i : Int) < (keep.length : Int)
        · obtain ⟨adk, ek, hxk⟩ := Kd.at_int (Kd.C_below HRK.out HC.out.below) (i : Int) h0 hik
          subst ek
          rw [Int.toNat_natCast] at hxk
          have hv : z = min (max 0 (rd keep (i : Int))) 64 := HZK.out.trans (if_pos hik)
          obtain ⟨q, hq⟩ : ∃ q, q = rd keep (i : Int) := ⟨_, rfl⟩
          rw [← hq] at hxk hv
          have HV := Aside0.mk hv
          clear hv hq hz0 hz1
          go_wp2_with fail
          all_goals (go_meet; case rel => (refine ⟨?_, rfl⟩; congr 1; have hv := HV.out; rename_i h2; first | omega | (split at h2 <;> omega) | (trace_state; sorry)))
        · have hv : z = 0 := HZK.out.trans (if_neg hik)
          have hd : decide ((i : Int) < (keep.length : Int)) = false := decide_eq_false hik
          clear hz0 hz1 HZK HZ
          subst hv
          go_wp2_with fail
          go_meet
          case rel => exact ⟨rfl, rfl⟩
      case rest =>
        obtain ⟨rfl, hwc⟩ := hcut
        subst hwc
        clear k1
        obtain ⟨adq, A1, c1, eq, hx0, hx1, hl1, hr1⟩ := at_T42 (Kd.R_reads' (Kd.S_R HC.out.pend)).2.2 (i : Int) h0 hlt'
        subst eq
        rw [Int.toNat_natCast] at hx0 hx1
        obtain ⟨q1, q2, q3⟩ := HQ.out i hlt
        obtain ⟨pg, hpg⟩ : ∃ pg, pg = (rd_T42 Q (i : Int)).f0 := ⟨_, rfl⟩
        obtain ⟨bs, hbs⟩ : ∃ bs, bs = (rd_T42 Q (i : Int)).f1 := ⟨_, rfl⟩
        rw [← hpg] at hx0 q1 q2
        rw [← hbs] at hx1 hl1 hr1 q3
        rw [q3] at hx1
        have HR3 := Aside0.mk hr1
        have HPG := Aside0.mk hpg
        have HBS := Aside0.mk hbs
        have HL1 := Aside0.mk q3
        have HC1b := Aside0.mk hl1
        clear hr1 hpg hbs q3 hl1
        obtain ⟨Pi, hPi⟩ : ∃ Pi, Pi = carr n Q P i := ⟨_, rfl⟩
        rw [← hPi] at HC
        have hPil : Pi.length = P.length := by rw [hPi]; exact carr_len n Q P i
        have hPi64 : ∀ p ∈ Pi, p.length = 64 := by rw [hPi]; exact carr_64 n Q P HP.out HN.out HQ.out i (by omega)
        have HPi := Aside0.mk hPi
        clear hPi
        obtain ⟨adp, eap, _⟩ := (Kd.R_reads' (Kd.S_R HC.out.pages)).2.2.2.2 (by omega)
        subst eap
        obtain ⟨oki, cc, hcl1, hM, hcc, hoki, hput⟩ := Kd.S_borrow HC.out.pages ([] : List Int) pg q1 q2
        obtain ⟨vp, rfl, hvp⟩ := hM
        have hpc := hcc 0 vp rfl
        rw [show (Kd.slice 5 (Kd.int .u8)).sz = 1 from rfl, Nat.mul_one, Nat.add_zero] at hpc
        have hpl : (Pi.getD pg.toNat []).length = 64 := by
          have hlt2 : pg.toNat < Pi.length := by omega
          rw [List.getD_eq_getElem?_getD, List.getElem?_eq_getElem hlt2]
          exact hPi64 _ (List.getElem_mem hlt2)
        obtain ⟨pp, hpp⟩ : ∃ pp, pp = Pi.getD pg.toNat [] := ⟨_, rfl⟩
        rw [← hpp] at hvp hpl
        obtain ⟨Av, cv, rfl⟩ := Kd.R_slice hvp
        rw [hpl] at hvp hpc hput
        have HVP := Aside0.mk hvp
        have HPUT := Aside0.mk (@hput)
        have HOKI := Aside0.mk hoki
        have HPP := Aside0.mk hpp
        have HPL := Aside0.mk hpl
        clear hvp hput hoki hpp hcc hcl1 hPi64 hPil
        have hcut : ∀ W : World, (Instr.slice 26 (.slice A1 64 c1) none (some (.int .i64 z)) none).run Try.prog W = .ok (.slice A1 z.toNat c1) W := by
          obtain ⟨i5, hi5, _, hsz5, _⟩ := info_parts info5
          have hh := (print_take_int (P := Try.prog) (k := .u8) 26 5 Try.underlying26 hi5 hsz5 A1 c1 bs z hz0 (by have := HL1.out; omega) HC1b.out).1
          intro W
          have h2 := hh W
          rw [List.length_take, HL1.out, Nat.min_eq_left (by omega)] at h2
          exact h2
        have hCt : Kd.C (Kd.int .u8) wc.drew A1 z.toNat (bs.take z.toNat) := by
          have h2 := Kd.C_take (m := z.toNat) (Kd.C_drew HR3.out) (by have := HL1.out; omega)
          rw [show (bs.take z.toNat).length = z.toNat by rw [List.length_take, HL1.out]; omega] at h2
          exact h2
        have HCT := Aside0.mk hCt
        have HNA := Aside0.mk (show some adp.block ≠ (Value.slice Av 64 cv).ownBlock from fun he => (HOKI.out _ (HVP.out.1 _ he.symm)).2 (by simp [Value.ownBlock]))
        have HN6 := Aside0.mk (Kd.R_ne HVP.out HC.out.b6 (by decide))
        have HNQ := Aside0.mk (show some adq.block ≠ (Value.slice Av 64 cv).ownBlock from fun he => by
          obtain ⟨cq_, hcq_⟩ := Kd.S_typed HC.out.pend adq.block (by simp [Value.ownBlock])
          exact Kd.R_ne HVP.out hcq_ (by decide) he)
        clear hCt
        have k0 : wc.cell? ⟨g6, 0, none⟩ = some (.slice (some adp) P.length cp) := (blk_cell HC.out.b6 0).trans rfl
        have k1 : wc.cell? ⟨g6, 1, none⟩ = some (.slice (some adq) Q.length cq) := (blk_cell HC.out.b6 1).trans rfl
        go_upto_region 10 with (fail)
        go_region_held3 (fun W => W.cell? ⟨g6, 0, none⟩ = some (.slice (some adp) P.length cp) ∧ W.cell? ⟨g6, 1, none⟩ = some (.slice (some adq) Q.length cq) ∧ W.cell? (adq.add (i * 2)) = some (.int .i64 pg) ∧ W.cell? ⟨(adq.add (i * 2)).block, (adq.add (i * 2)).off + 1, none⟩ = some (.slice A1 64 c1) ∧ W.cell? (adp.add pg.toNat) = some (.slice Av 64 cv))
          (first | go_keep)
          (first | (refine XD.copy8_step rfl (.tmp 41) (.tmp 49) 26 26 5 rfl Try.underlying26 (by kernel_rfl) w.heap.size oki (.slice Av 64 cv) pp (bs.take z.toNat) A1 z.toNat c1 rfl rfl (Kd.R_drew HVP.out) ?hC ?hm ?_; (case hC => exact HCT.out); (case hm => have := HPL.out; omega); intro w5 hR5 hg5; have HR5 := Aside0.mk hR5; have HG5 := Aside0.mk hg5; clear hR5 hg5; (have z0 := World.grownBy.cell HG5.out (a := ⟨g6, 0, none⟩) k0 HN6.out); (have z2 := World.grownBy.cell HG5.out (a := ⟨g6, 1, none⟩) k1 HN6.out); (have z3 := World.grownBy.cell HG5.out (a := adq.add (i * 2)) hx0 (by rw [add_block]; exact HNQ.out)); (have z4 := World.grownBy.cell HG5.out (a := ⟨(adq.add (i * 2)).block, (adq.add (i * 2)).off + 1, none⟩) hx1 (by show some (adq.add (i * 2)).block ≠ _; rw [add_block]; exact HNQ.out)); (have z5 := World.grownBy.cell HG5.out (a := adp.add pg.toNat) hpc (by rw [add_block]; exact HNA.out))))
        have HC5 := Aside0.mk (CarrH.put HC.out HVP.out HOKI.out HPUT.out HR5.out ⟨HG5.out.os, HG5.out.tape, HG5.out.output, HG5.out.size, HG5.out.block⟩)
        clear HG5 HR5 HPUT HVP HC HR3 k0 k1 z0 z2 z3 z4 z5 hpc hcut HCT HOKI hx0 hx1
        go_wp2_with fail
        go_roundg g
        case measure => omega
        case rel =>
          refine ⟨i + 1, by omega, by first | rfl | simp, ⟨?_⟩⟩
          rw [carr, ← HPG.out, ← HBS.out, ← HPi.out, ← HPP.out, ← HZ.out]
          exact HC5.out
/-! ### what the reference's steps hand back -/
def crashV (n : Nat → Int) (P : List (List Int)) (Q : List S42) : List (List Int) × List S42 × Int := if validB P Q = true then (carr n Q P Q.length, [], 0) else (P, Q, 23)
def writeV (P : List (List Int)) (Q : List S42) (page : Int) (b : List Int) : List (List Int) × List S42 × Int :=
  if validB P Q = true then (if page < 0 ∨ (P.length : Int) ≤ page then (P, Q, 22) else if 64 < b.length then (P, Q, 8) else if Q.length = 300 then (P, Q, 26) else (P, Q ++ [(⟨page, XD.padl b 64⟩ : S42)], 0)) else (P, Q, 23)
def RP (W : World) (A0 : Option Addr) (c0 : Nat) (P : List (List Int)) (A1 : Option Addr) (c1 : Nat) (Q : List S42) (r : List (List Int) × List S42 × Int) (e : Ending) (w' : World) : Prop :=
  ∃ v0 v1 : Value, e = .returned (.tuple #[.agg #[v0, v1], .int .i64 r.2.2]) ∧ DvRes W w' A0 c0 P A1 c1 Q v0 v1 r.1 r.2.1 ∧ Below W.heap.size W w'
theorem carr_congr (n n' : Nat → Int) (Q : List S42) (P : List (List Int)) : ∀ k : Nat, (∀ i, i < k → n i = n' i) → carr n Q P k = carr n' Q P k
  | 0, _ => rfl
  | k + 1, h => by rw [carr, carr, carr_congr n n' Q P k (fun i hi => h i (by omega)), h k (by omega)]
set_option maxHeartbeats 8000000 in
set_option maxRecDepth 100000 in
theorem rcrash_no (A0 : Option Addr) (c0 : Nat) (P : List (List Int)) (A1 : Option Addr) (c1 : Nat) (Q : List S42) (Ak : Option Addr) (nk ck : Nat) (w : World) (hV : Aside0 (∀ W : World, Below w.heap.size w W → Calls Try.prog 20 #[.agg #[.slice A0 P.length c0, .slice A1 Q.length c1]] W fun e w' => e = .returned (.bool false) ∧ Below W.heap.size W w')) :
    Calls Try.prog 12 #[.agg #[.slice A0 P.length c0, .slice A1 Q.length c1], .slice Ak nk ck] w (RP w A0 c0 P A1 c1 Q (P, Q, 23)) := by
  go_enter Try.func12, Try.ntmps12
  go_upto_region 1 with (fail)
  have HB0 := Aside0.mk (show Below w.heap.size w ((w.alloc (.cells #[.slice A0 P.length c0, .slice A1 Q.length c1] 25)).alloc (.cells #[.slice none 0 0, .slice none 0 0] 25)) from ((Below.refl w.heap.size w).alloc (Nat.le_refl _) _).alloc (by simp) _)
  have HK2 := Aside0.mk (show ((w.alloc (.cells #[.slice A0 P.length c0, .slice A1 Q.length c1] 25)).alloc (.cells #[.slice none 0 0, .slice none 0 0] 25)).heap[w.heap.size]? = some (.cells #[.slice A0 P.length c0, .slice A1 Q.length c1] 25 (0, 0)) from blk_alloc (heap_alloc_new w _) _)
  have HK4 := Aside0.mk (show ((w.alloc (.cells #[.slice A0 P.length c0, .slice A1 Q.length c1] 25)).alloc (.cells #[.slice none 0 0, .slice none 0 0] 25)).heap[w.heap.size + 1]? = some (.cells #[.slice none 0 0, .slice none 0 0] 25 (0, 0)) from by
    have := heap_alloc_new (w.alloc (.cells #[.slice A0 P.length c0, .slice A1 Q.length c1] 25)) (.cells #[.slice none 0 0, .slice none 0 0] 25)
    rwa [World.size_alloc] at this)
  generalize ((w.alloc (.cells #[.slice A0 P.length c0, .slice A1 Q.length c1] 25)).alloc (.cells #[.slice none 0 0, .slice none 0 0] 25)) = W0 at HB0 HK2 HK4 ⊢
  obtain ⟨g4, hg4⟩ : ∃ g4, g4 = w.heap.size + 1 := ⟨_, rfl⟩
  have hgl : w.heap.size ≤ g4 := by omega
  have hgn : w.heap.size ≠ g4 := by omega
  rw [← hg4] at HK4 ⊢
  clear hg4
  have HGL := Aside0.mk hgl
  have k0 : W0.cell? ⟨w.heap.size, 0, none⟩ = some (.slice A0 P.length c0) := (blk_cell HK2.out 0).trans rfl
  have k1 : W0.cell? ⟨w.heap.size, 1, none⟩ = some (.slice A1 Q.length c1) := (blk_cell HK2.out 1).trans rfl
  go_wp2_with fail
  go_at_call 20
  refine (hV.out _ HB0.out).mono ?_
  rintro e w9 ⟨rfl, hb9⟩
  have HB9 := Aside0.mk (below_step HB0.out hb9)
  have HK2a := Aside0.mk (blk_below HK2.out hb9)
  have HK4a := Aside0.mk (blk_below HK4.out hb9)
  clear hb9 k0 k1 HK2 HK4 HB0
  have k0 : w9.cell? ⟨w.heap.size, 0, none⟩ = some (.slice A0 P.length c0) := (blk_cell HK2a.out 0).trans rfl
  have k1 : w9.cell? ⟨w.heap.size, 1, none⟩ = some (.slice A1 Q.length c1) := (blk_cell HK2a.out 1).trans rfl
  have z0 : w9.cell? ⟨g4, 0, none⟩ = some (.slice none 0 0) := (blk_cell HK4a.out 0).trans rfl
  have z1 : w9.cell? ⟨g4, 1, none⟩ = some (.slice none 0 0) := (blk_cell HK4a.out 1).trans rfl
  have y0 : w9.frozen? ⟨g4, 0, none⟩ = false := blk_frozen HK4a.out 0
  have y1 : w9.frozen? ⟨g4, 1, none⟩ = false := blk_frozen HK4a.out 1
  have hgm := hgn.symm
  go_wp2_with fail
  have e1 := blk_set (blk_set HK4a.out 0 (.slice A0 P.length c0)) 1 (.slice A1 Q.length c1)
  exact bodyPost_ret (results_ct rfl _ _ g4 25 _ (0, 0) _ rfl e1 Try.underlying25 rfl (by kernel_rfl)) rfl ⟨_, _, rfl, Or.inl ⟨rfl, rfl, rfl, rfl⟩, (HB9.out.setCell HGL.out _).setCell HGL.out _⟩
theorem rcrash_ok (A0 : Option Addr) (c0 : Nat) (P : List (List Int)) (A1 : Option Addr) (c1 : Nat) (Q : List S42) (Ak : Option Addr) (ck : Nat) (keep : List Int) (w : World) (hd : Dv w A0 c0 P A1 c1 Q) (hf : Fit2 P Q) (hk : Kd.C (Kd.int .i64) w Ak keep.length keep) :
    Calls Try.prog 12 #[.agg #[.slice A0 P.length c0, .slice A1 Q.length c1], .slice Ak keep.length ck] w (RP w A0 c0 P A1 c1 Q (crashV (XD.keepAt keep) P Q)) := by
  unfold crashV
  by_cases hv : validB P Q = true
  · rw [if_pos hv]
    have hok := validB_ok hv
    obtain ⟨f1, f2, f3⟩ := fit_is hok.fits
    obtain ⟨k1, h1⟩ := rcopy_ev P Q hf
    obtain ⟨k2, h2⟩ := rvalid_ev P Q hf
    have e1 := h1 (k1 + k2) (by omega)
    have e2 := h2 (k1 + k2) (by omega)
    rw [hv] at e2
    exact (rcrash_yes keep Ak ck (k1 + k2) A0 c0 P A1 c1 Q P Q w hd.hp hd.cp hd.hq hd.cq hk e1 e2 f1 f2 f3).mono fun e w' ⟨v0, z1, z2, z3⟩ => ⟨v0, .slice none 0 0, z1, Or.inr ⟨z2, Kd.S_nil _ _ _ _ _⟩, z3⟩
  · rw [if_neg hv]
    obtain ⟨k2, h2⟩ := rvalid_ev P Q hf
    have e2 := h2 k2 (Nat.le_refl _)
    rw [Bool.eq_false_iff.mpr hv] at e2
    exact rcrash_no A0 c0 P A1 c1 Q Ak keep.length ck w ⟨fun W hb => shapesearchref24_Valid.calls k2 A0 c0 P A1 c1 Q false W (Kd.C_below hd.hp hb) hd.cp (Kd.C_below hd.hq hb) hd.cq e2⟩
set_option maxHeartbeats 8000000 in
set_option maxRecDepth 100000 in
theorem rflush_ok (A0 : Option Addr) (c0 : Nat) (P : List (List Int)) (A1 : Option Addr) (c1 : Nat) (Q : List S42) (w : World) (hd : Dv w A0 c0 P A1 c1 Q) (hf : Fit2 P Q) :
    Calls Try.prog 11 #[.agg #[.slice A0 P.length c0, .slice A1 Q.length c1]] w (RP w A0 c0 P A1 c1 Q (crashV (fun _ => 64) P Q)) := by
  have hq : Q.length ≤ 4398046510976 := hf.2.1
  have HD := Aside0.mk hd
  have HF := Aside0.mk hf
  clear hd hf
  go_enter Try.func11, Try.ntmps11
  go_upto_region 1 with (fail)
  have HB0 := Aside0.mk (show Below w.heap.size w ((w.alloc (.cells #[.slice A0 P.length c0, .slice A1 Q.length c1] 25)).alloc (.cells #[.slice none 0 0, .slice none 0 0] 25)) from ((Below.refl w.heap.size w).alloc (Nat.le_refl _) _).alloc (by simp) _)
  have HK2 := Aside0.mk (show ((w.alloc (.cells #[.slice A0 P.length c0, .slice A1 Q.length c1] 25)).alloc (.cells #[.slice none 0 0, .slice none 0 0] 25)).heap[w.heap.size]? = some (.cells #[.slice A0 P.length c0, .slice A1 Q.length c1] 25 (0, 0)) from blk_alloc (heap_alloc_new w _) _)
  have HK4 := Aside0.mk (show ((w.alloc (.cells #[.slice A0 P.length c0, .slice A1 Q.length c1] 25)).alloc (.cells #[.slice none 0 0, .slice none 0 0] 25)).heap[w.heap.size + 1]? = some (.cells #[.slice none 0 0, .slice none 0 0] 25 (0, 0)) from by
    have := heap_alloc_new (w.alloc (.cells #[.slice A0 P.length c0, .slice A1 Q.length c1] 25)) (.cells #[.slice none 0 0, .slice none 0 0] 25)
    rwa [World.size_alloc] at this)
  generalize ((w.alloc (.cells #[.slice A0 P.length c0, .slice A1 Q.length c1] 25)).alloc (.cells #[.slice none 0 0, .slice none 0 0] 25)) = W0 at HB0 HK2 HK4 ⊢
  obtain ⟨g4, hg4⟩ : ∃ g4, g4 = w.heap.size + 1 := ⟨_, rfl⟩
  have hgl : w.heap.size ≤ g4 := by omega
  have hgn : w.heap.size ≠ g4 := by omega
  rw [← hg4] at HK4 ⊢
  clear hg4
  have HGL := Aside0.mk hgl
  have k0 : W0.cell? ⟨w.heap.size, 0, none⟩ = some (.slice A0 P.length c0) := (blk_cell HK2.out 0).trans rfl
  have k1 : W0.cell? ⟨w.heap.size, 1, none⟩ = some (.slice A1 Q.length c1) := (blk_cell HK2.out 1).trans rfl
  have HK2a := HK2
  clear k0 k1 HK2
  go_wp2_with fail
  go_loopg [4, 5] Q.length (fun g s4 s5 wx => ∃ (i : Nat), i + g = Q.length ∧ s5 = .int .i64 i ∧ Aside0 (Kd.R (Kd.int .i64) 3 wx w.heap.size (fun _ => True) s4 (List.replicate i 64)) ∧ Aside0 (wx.heap[w.heap.size]? = some (.cells #[.slice A0 P.length c0, .slice A1 Q.length c1] 25 (0, 0))) ∧ Aside0 (wx.heap[g4]? = some (.cells #[.slice none 0 0, .slice none 0 0] 25 (0, 0))) ∧ Aside0 (Below w.heap.size w wx))
  case atStart => exact ⟨0, by omega, rfl, ⟨Kd.R_nil _ _ _ _ _⟩, HK2a, HK4, HB0⟩
  case round =>
    clear HK2a HK4 HB0
    obtain ⟨i, hi, rfl, HR, HK2a, HK4a, HB9⟩ := hrel
    have k1 : wr.cell? ⟨w.heap.size, 1, none⟩ = some (.slice A1 Q.length c1) := (blk_cell HK2a.out 1).trans rfl
    obtain ⟨Ar, cr, er⟩ := Kd.R_slice HR.out
    rw [List.length_replicate] at er
    subst er
    cases gk with
    | zero =>
      obtain rfl : i = Q.length := by omega
      have k0 : wr.cell? ⟨w.heap.size, 0, none⟩ = some (.slice A0 P.length c0) := (blk_cell HK2a.out 0).trans rfl
      go_wp2_with fail
      go_at_call 12
      have hrk := (Kd.R_reads' HR.out).2.2
      have hlen : (List.replicate Q.length (64 : Int)).length = Q.length := List.length_replicate
      have hcc := rcrash_ok A0 c0 P A1 c1 Q Ar cr (List.replicate Q.length 64) wr (HD.out.below HB9.out) HF.out hrk
      rw [hlen] at hcc
      have hcv : crashV (XD.keepAt (List.replicate Q.length 64)) P Q = crashV (fun _ => 64) P Q := by
        unfold crashV
        rw [carr_congr (XD.keepAt (List.replicate Q.length 64)) (fun _ => 64) Q P Q.length (fun j hj => by
          unfold XD.keepAt
          rw [if_pos (by rw [List.length_replicate]; omega), rd_nat _ j (by rw [List.length_replicate]; exact hj), List.getElem_replicate]
          rfl)]
      rw [hcv] at hcc
      have HR9 := Aside0.mk HB9.out
      refine hcc.mono ?_
      rintro e w2 ⟨v0, v1, rfl, hres, hb2⟩
      obtain ⟨r, hr⟩ : ∃ r, r = crashV (fun _ => 64) P Q := ⟨_, rfl⟩
      rw [← hr] at hres ⊢
      have HRr := Aside0.mk hr
      have hsl : ∃ Ap np cp Aq nq cq, v0 = .slice Ap np cp ∧ v1 = .slice Aq nq cq := by
        rcases hres with ⟨e0, e1, _⟩ | ⟨s0, s1⟩
        · exact ⟨_, _, _, _, _, _, e0, e1⟩
        · obtain ⟨Ap, cp, e0⟩ := Kd.S_slice s0
          obtain ⟨Aq, cq, e1⟩ := Kd.S_slice s1
          exact ⟨_, _, _, _, _, _, e0, e1⟩
      obtain ⟨Ap, np, cp, Aq, nq, cq, rfl, rfl⟩ := hsl
      have HB2 := Aside0.mk (below_step HB9.out hb2)
      have HK5 := Aside0.mk (blk_below HK4a.out hb2)
      have HRES := Aside0.mk hres
      have HSZ := Aside0.mk HB9.out.size
      clear hb2 hres k0 k1 hr hcv hcc hrk hlen
      have z0 : w2.cell? ⟨g4, 0, none⟩ = some (.slice none 0 0) := (blk_cell HK5.out 0).trans rfl
      have z1 : w2.cell? ⟨g4, 1, none⟩ = some (.slice none 0 0) := (blk_cell HK5.out 1).trans rfl
      have y0 : w2.frozen? ⟨g4, 0, none⟩ = false := blk_frozen HK5.out 0
      have y1 : w2.frozen? ⟨g4, 1, none⟩ = false := blk_frozen HK5.out 1
      go_wp2_with fail
      have e1 := blk_set (blk_set HK5.out 0 (.slice Ap np cp)) 1 (.slice Aq nq cq)
      refine bodyPost_ret (results_ct rfl _ _ g4 25 _ (0, 0) _ rfl e1 Try.underlying25 rfl (by kernel_rfl)) rfl ?_
      rw [← HRr.out]
      refine ⟨_, _, rfl, ?_, (HB2.out.setCell HGL.out _).setCell HGL.out _⟩
      rcases HRES.out with hh | ⟨s0, s1⟩
      · exact Or.inl hh
      · exact Or.inr ⟨Kd.S_set (Kd.S_set (Kd.S_lower s0 HSZ.out) HK5.out (by decide) 0 _) (blk_set HK5.out 0 _) (by decide) 1 _, Kd.S_set (Kd.S_set (Kd.S_lower s1 HSZ.out) HK5.out (by decide) 0 _) (blk_set HK5.out 0 _) (by decide) 1 _⟩
    | succ g =>
      have hlt' : (i : Int) < (Q.length : Int) := by omega
      have HNE2 := Aside0.mk (Kd.R_ne HR.out HK2a.out (by decide))
      have HNE4 := Aside0.mk (Kd.R_ne HR.out HK4a.out (by decide))
      go_wp2_with (first | (at_builtin; refine Kd.R_append (Kd.int .i64) w.heap.size rfl (.tmp 13) (.tmp 14) 27 3 (.int .i64 0) 8 rfl Try.underlying27 info3 rfl (by decide) (by decide) (.slice Ar i cr) (List.replicate i 64) 64 [.int .i64 64] (fun _ => True) (fun _ => False) rfl rfl rfl (fun _ hk => hk.elim) (fun _ _ => trivial) HR.out HB9.out HB9.out.size (by rw [List.length_replicate]; omega) ?_; intro v5 w5 ho hb hg hat; have HR5 := Aside0.mk ho; have HB5 := Aside0.mk hb; have HK2b := Aside0.mk (blk_grown HK2a.out hg HNE2.out); have HK4b := Aside0.mk (blk_grown HK4a.out hg HNE4.out); clear ho hb hg hat k1))
      go_roundg g
      case measure => omega
      case rel => exact ⟨i + 1, by omega, by first | rfl | simp, ⟨by rw [List.replicate_succ']; exact HR5.out⟩, HK2b, HK4b, HB5⟩
set_option maxHeartbeats 8000000 in
set_option maxRecDepth 100000 in
theorem rwrite_no (A0 : Option Addr) (c0 : Nat) (P : List (List Int)) (A1 : Option Addr) (c1 : Nat) (Q : List S42) (page : Int) (Ab : Option Addr) (nb cb : Nat) (r : List (List Int) × List S42 × Int) (w : World) (HR : Aside0 (r = (P, Q, 23))) (hV : Aside0 (∀ W : World, Below w.heap.size w W → Calls Try.prog 20 #[.agg #[.slice A0 P.length c0, .slice A1 Q.length c1]] W fun e w' => e = .returned (.bool false) ∧ Below W.heap.size W w')) :
    Calls Try.prog 13 #[.agg #[.slice A0 P.length c0, .slice A1 Q.length c1], .int .i64 page, .slice Ab nb cb] w (RP w A0 c0 P A1 c1 Q r) := by
  go_enter Try.func13, Try.ntmps13
  go_upto_region 1 with (fail)
  have HB0 := Aside0.mk (show Below w.heap.size w ((w.alloc (.cells #[.slice A0 P.length c0, .slice A1 Q.length c1] 25)).alloc (.cells #[.slice none 0 0, .slice none 0 0] 25)) from ((Below.refl w.heap.size w).alloc (Nat.le_refl _) _).alloc (by simp) _)
  have HK2 := Aside0.mk (show ((w.alloc (.cells #[.slice A0 P.length c0, .slice A1 Q.length c1] 25)).alloc (.cells #[.slice none 0 0, .slice none 0 0] 25)).heap[w.heap.size]? = some (.cells #[.slice A0 P.length c0, .slice A1 Q.length c1] 25 (0, 0)) from blk_alloc (heap_alloc_new w _) _)
  have HK4 := Aside0.mk (show ((w.alloc (.cells #[.slice A0 P.length c0, .slice A1 Q.length c1] 25)).alloc (.cells #[.slice none 0 0, .slice none 0 0] 25)).heap[w.heap.size + 1]? = some (.cells #[.slice none 0 0, .slice none 0 0] 25 (0, 0)) from by
    have := heap_alloc_new (w.alloc (.cells #[.slice A0 P.length c0, .slice A1 Q.length c1] 25)) (.cells #[.slice none 0 0, .slice none 0 0] 25)
    rwa [World.size_alloc] at this)
  generalize ((w.alloc (.cells #[.slice A0 P.length c0, .slice A1 Q.length c1] 25)).alloc (.cells #[.slice none 0 0, .slice none 0 0] 25)) = W0 at HB0 HK2 HK4 ⊢
  obtain ⟨g4, hg4⟩ : ∃ g4, g4 = w.heap.size + 1 := ⟨_, rfl⟩
  have hgl : w.heap.size ≤ g4 := by omega
  have hgn : w.heap.size ≠ g4 := by omega
  rw [← hg4] at HK4 ⊢
  clear hg4
  have HGL := Aside0.mk hgl
  have k0 : W0.cell? ⟨w.heap.size, 0, none⟩ = some (.slice A0 P.length c0) := (blk_cell HK2.out 0).trans rfl
  have k1 : W0.cell? ⟨w.heap.size, 1, none⟩ = some (.slice A1 Q.length c1) := (blk_cell HK2.out 1).trans rfl
  go_wp2_with fail
  go_at_call 20
  refine (hV.out _ HB0.out).mono ?_
  rintro e w9 ⟨rfl, hb9⟩
  have HB9 := Aside0.mk (below_step HB0.out hb9)
  have HK2a := Aside0.mk (blk_below HK2.out hb9)
  have HK4a := Aside0.mk (blk_below HK4.out hb9)
  clear hb9 k0 k1 HK2 HK4 HB0
  have k0 : w9.cell? ⟨w.heap.size, 0, none⟩ = some (.slice A0 P.length c0) := (blk_cell HK2a.out 0).trans rfl
  have k1 : w9.cell? ⟨w.heap.size, 1, none⟩ = some (.slice A1 Q.length c1) := (blk_cell HK2a.out 1).trans rfl
  have z0 : w9.cell? ⟨g4, 0, none⟩ = some (.slice none 0 0) := (blk_cell HK4a.out 0).trans rfl
  have z1 : w9.cell? ⟨g4, 1, none⟩ = some (.slice none 0 0) := (blk_cell HK4a.out 1).trans rfl
  have y0 : w9.frozen? ⟨g4, 0, none⟩ = false := blk_frozen HK4a.out 0
  have y1 : w9.frozen? ⟨g4, 1, none⟩ = false := blk_frozen HK4a.out 1
  have hgm := hgn.symm
  go_wp2_with fail
  have e1 := blk_set (blk_set HK4a.out 0 (.slice A0 P.length c0)) 1 (.slice A1 Q.length c1)
  refine bodyPost_ret (results_ct rfl _ _ g4 25 _ (0, 0) _ rfl e1 Try.underlying25 rfl (by kernel_rfl)) rfl ?_
  rw [HR.out]
  exact ⟨_, _, rfl, Or.inl ⟨rfl, rfl, rfl, rfl⟩, (HB9.out.setCell HGL.out _).setCell HGL.out _⟩
set_option maxHeartbeats 8000000 in
set_option maxRecDepth 100000 in
theorem rwrite_bad (A0 : Option Addr) (c0 : Nat) (P : List (List Int)) (A1 : Option Addr) (c1 : Nat) (Q : List S42) (page : Int) (Ab : Option Addr) (nb cb : Nat) (r : List (List Int) × List S42 × Int) (w : World) (hb : page < 0 ∨ (P.length : Int) ≤ page) (HR : Aside0 (r = (P, Q, 22))) (hV : Aside0 (∀ W : World, Below w.heap.size w W → Calls Try.prog 20 #[.agg #[.slice A0 P.length c0, .slice A1 Q.length c1]] W fun e w' => e = .returned (.bool true) ∧ Below W.heap.size W w')) :
    Calls Try.prog 13 #[.agg #[.slice A0 P.length c0, .slice A1 Q.length c1], .int .i64 page, .slice Ab nb cb] w (RP w A0 c0 P A1 c1 Q r) := by
  go_enter Try.func13, Try.ntmps13
  go_upto_region 1 with (fail)
  have HB0 := Aside0.mk (show Below w.heap.size w ((w.alloc (.cells #[.slice A0 P.length c0, .slice A1 Q.length c1] 25)).alloc (.cells #[.slice none 0 0, .slice none 0 0] 25)) from ((Below.refl w.heap.size w).alloc (Nat.le_refl _) _).alloc (by simp) _)
  have HK2 := Aside0.mk (show ((w.alloc (.cells #[.slice A0 P.length c0, .slice A1 Q.length c1] 25)).alloc (.cells #[.slice none 0 0, .slice none 0 0] 25)).heap[w.heap.size]? = some (.cells #[.slice A0 P.length c0, .slice A1 Q.length c1] 25 (0, 0)) from blk_alloc (heap_alloc_new w _) _)
  have HK4 := Aside0.mk (show ((w.alloc (.cells #[.slice A0 P.length c0, .slice A1 Q.length c1] 25)).alloc (.cells #[.slice none 0 0, .slice none 0 0] 25)).heap[w.heap.size + 1]? = some (.cells #[.slice none 0 0, .slice none 0 0] 25 (0, 0)) from by
    have := heap_alloc_new (w.alloc (.cells #[.slice A0 P.length c0, .slice A1 Q.length c1] 25)) (.cells #[.slice none 0 0, .slice none 0 0] 25)
    rwa [World.size_alloc] at this)
  generalize ((w.alloc (.cells #[.slice A0 P.length c0, .slice A1 Q.length c1] 25)).alloc (.cells #[.slice none 0 0, .slice none 0 0] 25)) = W0 at HB0 HK2 HK4 ⊢
  obtain ⟨g4, hg4⟩ : ∃ g4, g4 = w.heap.size + 1 := ⟨_, rfl⟩
  have hgl : w.heap.size ≤ g4 := by omega
  have hgn : w.heap.size ≠ g4 := by omega
  rw [← hg4] at HK4 ⊢
  clear hg4
  have HGL := Aside0.mk hgl
  have k0 : W0.cell? ⟨w.heap.size, 0, none⟩ = some (.slice A0 P.length c0) := (blk_cell HK2.out 0).trans rfl
  have k1 : W0.cell? ⟨w.heap.size, 1, none⟩ = some (.slice A1 Q.length c1) := (blk_cell HK2.out 1).trans rfl
  go_wp2_with fail
  go_at_call 20
  refine (hV.out _ HB0.out).mono ?_
  rintro e w9 ⟨rfl, hb9⟩
  have HB9 := Aside0.mk (below_step HB0.out hb9)
  have HK2a := Aside0.mk (blk_below HK2.out hb9)
  have HK4a := Aside0.mk (blk_below HK4.out hb9)
  clear hb9 k0 k1 HK2 HK4 HB0
  have k0 : w9.cell? ⟨w.heap.size, 0, none⟩ = some (.slice A0 P.length c0) := (blk_cell HK2a.out 0).trans rfl
  have k1 : w9.cell? ⟨w.heap.size, 1, none⟩ = some (.slice A1 Q.length c1) := (blk_cell HK2a.out 1).trans rfl
  have z0 : w9.cell? ⟨g4, 0, none⟩ = some (.slice none 0 0) := (blk_cell HK4a.out 0).trans rfl
  have z1 : w9.cell? ⟨g4, 1, none⟩ = some (.slice none 0 0) := (blk_cell HK4a.out 1).trans rfl
  have y0 : w9.frozen? ⟨g4, 0, none⟩ = false := blk_frozen HK4a.out 0
  have y1 : w9.frozen? ⟨g4, 1, none⟩ = false := blk_frozen HK4a.out 1
  have hgm := hgn.symm
  by_cases h1 : page < 0
  · have d1 : decide (page < 0) = true := decide_eq_true h1
    go_wp2_with fail
    have e1 := blk_set (blk_set HK4a.out 0 (.slice A0 P.length c0)) 1 (.slice A1 Q.length c1)
    refine bodyPost_ret (results_ct rfl _ _ g4 25 _ (0, 0) _ rfl e1 Try.underlying25 rfl (by kernel_rfl)) rfl ?_
    rw [HR.out]
    exact ⟨_, _, rfl, Or.inl ⟨rfl, rfl, rfl, rfl⟩, (HB9.out.setCell HGL.out _).setCell HGL.out _⟩
  · have d1 : decide (page < 0) = false := decide_eq_false h1
    have d2 : decide ((P.length : Int) ≤ page) = true := decide_eq_true (by omega)
    go_wp2_with fail
    have e1 := blk_set (blk_set HK4a.out 0 (.slice A0 P.length c0)) 1 (.slice A1 Q.length c1)
    refine bodyPost_ret (results_ct rfl _ _ g4 25 _ (0, 0) _ rfl e1 Try.underlying25 rfl (by kernel_rfl)) rfl ?_
    rw [HR.out]
    exact ⟨_, _, rfl, Or.inl ⟨rfl, rfl, rfl, rfl⟩, (HB9.out.setCell HGL.out _).setCell HGL.out _⟩
set_option maxHeartbeats 8000000 in
set_option maxRecDepth 100000 in
theorem rwrite_long (A0 : Option Addr) (c0 : Nat) (P : List (List Int)) (A1 : Option Addr) (c1 : Nat) (Q : List S42) (page : Int) (Ab : Option Addr) (nb cb : Nat) (er : Int) (r : List (List Int) × List S42 × Int) (w : World) (h1 : ¬ (page < 0 ∨ (P.length : Int) ≤ page)) (he : (64 < nb ∧ er = 8) ∨ (¬ 64 < nb ∧ Q.length = 300 ∧ er = 26)) (HR : Aside0 (r = (P, Q, er))) (hV : Aside0 (∀ W : World, Below w.heap.size w W → Calls Try.prog 20 #[.agg #[.slice A0 P.length c0, .slice A1 Q.length c1]] W fun e w' => e = .returned (.bool true) ∧ Below W.heap.size W w')) :
    Calls Try.prog 13 #[.agg #[.slice A0 P.length c0, .slice A1 Q.length c1], .int .i64 page, .slice Ab nb cb] w (RP w A0 c0 P A1 c1 Q r) := by
  go_enter Try.func13, Try.ntmps13
  go_upto_region 1 with (fail)
  have HB0 := Aside0.mk (show Below w.heap.size w ((w.alloc (.cells #[.slice A0 P.length c0, .slice A1 Q.length c1] 25)).alloc (.cells #[.slice none 0 0, .slice none 0 0] 25)) from ((Below.refl w.heap.size w).alloc (Nat.le_refl _) _).alloc (by simp) _)
  have HK2 := Aside0.mk (show ((w.alloc (.cells #[.slice A0 P.length c0, .slice A1 Q.length c1] 25)).alloc (.cells #[.slice none 0 0, .slice none 0 0] 25)).heap[w.heap.size]? = some (.cells #[.slice A0 P.length c0, .slice A1 Q.length c1] 25 (0, 0)) from blk_alloc (heap_alloc_new w _) _)
  have HK4 := Aside0.mk (show ((w.alloc (.cells #[.slice A0 P.length c0, .slice A1 Q.length c1] 25)).alloc (.cells #[.slice none 0 0, .slice none 0 0] 25)).heap[w.heap.size + 1]? = some (.cells #[.slice none 0 0, .slice none 0 0] 25 (0, 0)) from by
    have := heap_alloc_new (w.alloc (.cells #[.slice A0 P.length c0, .slice A1 Q.length c1] 25)) (.cells #[.slice none 0 0, .slice none 0 0] 25)
    rwa [World.size_alloc] at this)
  generalize ((w.alloc (.cells #[.slice A0 P.length c0, .slice A1 Q.length c1] 25)).alloc (.cells #[.slice none 0 0, .slice none 0 0] 25)) = W0 at HB0 HK2 HK4 ⊢
  obtain ⟨g4, hg4⟩ : ∃ g4, g4 = w.heap.size + 1 := ⟨_, rfl⟩
  have hgl : w.heap.size ≤ g4 := by omega
  have hgn : w.heap.size ≠ g4 := by omega
  rw [← hg4] at HK4 ⊢
  clear hg4
  have HGL := Aside0.mk hgl
  have k0 : W0.cell? ⟨w.heap.size, 0, none⟩ = some (.slice A0 P.length c0) := (blk_cell HK2.out 0).trans rfl
  have k1 : W0.cell? ⟨w.heap.size, 1, none⟩ = some (.slice A1 Q.length c1) := (blk_cell HK2.out 1).trans rfl
  go_wp2_with fail
  go_at_call 20
  refine (hV.out _ HB0.out).mono ?_
  rintro e w9 ⟨rfl, hb9⟩
  have HB9 := Aside0.mk (below_step HB0.out hb9)
  have HK2a := Aside0.mk (blk_below HK2.out hb9)
  have HK4a := Aside0.mk (blk_below HK4.out hb9)
  clear hb9 k0 k1 HK2 HK4 HB0
  have k0 : w9.cell? ⟨w.heap.size, 0, none⟩ = some (.slice A0 P.length c0) := (blk_cell HK2a.out 0).trans rfl
  have k1 : w9.cell? ⟨w.heap.size, 1, none⟩ = some (.slice A1 Q.length c1) := (blk_cell HK2a.out 1).trans rfl
  have z0 : w9.cell? ⟨g4, 0, none⟩ = some (.slice none 0 0) := (blk_cell HK4a.out 0).trans rfl
  have z1 : w9.cell? ⟨g4, 1, none⟩ = some (.slice none 0 0) := (blk_cell HK4a.out 1).trans rfl
  have y0 : w9.frozen? ⟨g4, 0, none⟩ = false := blk_frozen HK4a.out 0
  have y1 : w9.frozen? ⟨g4, 1, none⟩ = false := blk_frozen HK4a.out 1
  have hgm := hgn.symm
  have d1 : decide (page < 0) = false := decide_eq_false (by omega)
  have d2 : decide ((P.length : Int) ≤ page) = false := decide_eq_false (by omega)
  rcases he with ⟨h2, rfl⟩ | ⟨h2, h3, rfl⟩
  · have d3 : decide ((64 : Int) < (nb : Int)) = true := decide_eq_true (by omega)
    go_wp2_with fail
    have e1 := blk_set (blk_set HK4a.out 0 (.slice A0 P.length c0)) 1 (.slice A1 Q.length c1)
    refine bodyPost_ret (results_ct rfl _ _ g4 25 _ (0, 0) _ rfl e1 Try.underlying25 rfl (by kernel_rfl)) rfl ?_
    rw [HR.out]
    exact ⟨_, _, rfl, Or.inl ⟨rfl, rfl, rfl, rfl⟩, (HB9.out.setCell HGL.out _).setCell HGL.out _⟩
  · have d3 : decide ((64 : Int) < (nb : Int)) = false := decide_eq_false (by omega)
    have d4 : ((Q.length : Int) == 300) = true := beq_iff_eq.mpr (by omega)
    clear h3
    go_wp2_with fail
    have e1 := blk_set (blk_set HK4a.out 0 (.slice A0 P.length c0)) 1 (.slice A1 Q.length c1)
    refine bodyPost_ret (results_ct rfl _ _ g4 25 _ (0, 0) _ rfl e1 Try.underlying25 rfl (by kernel_rfl)) rfl ?_
    rw [HR.out]
    exact ⟨_, _, rfl, Or.inl ⟨rfl, rfl, rfl, rfl⟩, (HB9.out.setCell HGL.out _).setCell HGL.out _⟩
set_option maxHeartbeats 8000000 in
set_option maxRecDepth 100000 in
theorem rwrite_good (A0 : Option Addr) (c0 : Nat) (P : List (List Int)) (A1 : Option Addr) (c1 : Nat) (Q : List S42) (page : Int) (Ab : Option Addr) (cb : Nat) (b : List Int) (r : List (List Int) × List S42 × Int) (w : World) (h1 : ¬ (page < 0 ∨ (P.length : Int) ≤ page)) (h2 : b.length ≤ 64) (h3 : Q.length < 300) (hbk : Kd.C (Kd.int .u8) w Ab b.length b) (HR : Aside0 (r = (P, Q ++ [(⟨page, XD.padl b 64⟩ : S42)], 0)))
    (hV : Aside0 (∀ W : World, Below w.heap.size w W → Calls Try.prog 20 #[.agg #[.slice A0 P.length c0, .slice A1 Q.length c1]] W fun e w' => e = .returned (.bool true) ∧ Below W.heap.size W w'))
    (hC : Aside0 (∀ W : World, Below w.heap.size w W → Calls Try.prog 21 #[.agg #[.slice A0 P.length c0, .slice A1 Q.length c1]] W fun e w' => ∃ v0_ v1_ : Value, e = .returned (.agg #[v0_, v1_]) ∧ Kd.S (Kd.slice 5 (Kd.int .u8)) 26 w' W.heap.size (fun _ => True) v0_ P ∧ Kd.S k42 42 w' W.heap.size (fun _ => True) v1_ Q ∧ Below W.heap.size W w')) :
    Calls Try.prog 13 #[.agg #[.slice A0 P.length c0, .slice A1 Q.length c1], .int .i64 page, .slice Ab b.length cb] w (RP w A0 c0 P A1 c1 Q r) := by
  have HBK := Aside0.mk hbk
  clear hbk
  go_enter Try.func13, Try.ntmps13
  go_upto_region 1 with (fail)
  have HB0 := Aside0.mk (show Below w.heap.size w ((w.alloc (.cells #[.slice A0 P.length c0, .slice A1 Q.length c1] 25)).alloc (.cells #[.slice none 0 0, .slice none 0 0] 25)) from ((Below.refl w.heap.size w).alloc (Nat.le_refl _) _).alloc (by simp) _)
  have HK2 := Aside0.mk (show ((w.alloc (.cells #[.slice A0 P.length c0, .slice A1 Q.length c1] 25)).alloc (.cells #[.slice none 0 0, .slice none 0 0] 25)).heap[w.heap.size]? = some (.cells #[.slice A0 P.length c0, .slice A1 Q.length c1] 25 (0, 0)) from blk_alloc (heap_alloc_new w _) _)
  have HK4 := Aside0.mk (show ((w.alloc (.cells #[.slice A0 P.length c0, .slice A1 Q.length c1] 25)).alloc (.cells #[.slice none 0 0, .slice none 0 0] 25)).heap[w.heap.size + 1]? = some (.cells #[.slice none 0 0, .slice none 0 0] 25 (0, 0)) from by
    have := heap_alloc_new (w.alloc (.cells #[.slice A0 P.length c0, .slice A1 Q.length c1] 25)) (.cells #[.slice none 0 0, .slice none 0 0] 25)
    rwa [World.size_alloc] at this)
  generalize ((w.alloc (.cells #[.slice A0 P.length c0, .slice A1 Q.length c1] 25)).alloc (.cells #[.slice none 0 0, .slice none 0 0] 25)) = W0 at HB0 HK2 HK4 ⊢
  obtain ⟨g4, hg4⟩ : ∃ g4, g4 = w.heap.size + 1 := ⟨_, rfl⟩
  have hgl : w.heap.size ≤ g4 := by omega
  have hgn : w.heap.size ≠ g4 := by omega
  rw [← hg4] at HK4 ⊢
  clear hg4
  have HGL := Aside0.mk hgl
  have k0 : W0.cell? ⟨w.heap.size, 0, none⟩ = some (.slice A0 P.length c0) := (blk_cell HK2.out 0).trans rfl
  have k1 : W0.cell? ⟨w.heap.size, 1, none⟩ = some (.slice A1 Q.length c1) := (blk_cell HK2.out 1).trans rfl
  go_wp2_with fail
  go_at_call 20
  refine (hV.out _ HB0.out).mono ?_
  rintro e w9 ⟨rfl, hb9⟩
  have HB9 := Aside0.mk (below_step HB0.out hb9)
  have HK2a := Aside0.mk (blk_below HK2.out hb9)
  have HK4a := Aside0.mk (blk_below HK4.out hb9)
  clear hb9 k0 k1 HK2 HK4 HB0
  have k0 : w9.cell? ⟨w.heap.size, 0, none⟩ = some (.slice A0 P.length c0) := (blk_cell HK2a.out 0).trans rfl
  have k1 : w9.cell? ⟨w.heap.size, 1, none⟩ = some (.slice A1 Q.length c1) := (blk_cell HK2a.out 1).trans rfl
  have d1 : decide (page < 0) = false := decide_eq_false (by omega)
  have d2 : decide ((P.length : Int) ≤ page) = false := decide_eq_false (by omega)
  have d3 : decide ((64 : Int) < (b.length : Int)) = false := decide_eq_false (by omega)
  have d4 : ((Q.length : Int) == 300) = false := beq_eq_false_iff_ne.mpr (by omega)
  go_wp2_with fail
  go_at_call 21
  refine (hC.out _ HB9.out).mono ?_
  rintro e w1 ⟨v0_, v1_, rfl, hp, hq, hb1⟩
  obtain ⟨Ap, cp, rfl⟩ := Kd.S_slice hp
  obtain ⟨Aq, cq, rfl⟩ := Kd.S_slice hq
  have HB1 := Aside0.mk (below_step HB9.out hb1)
  have HK4b := Aside0.mk (blk_below HK4a.out hb1)
  have HP1 := Aside0.mk (Kd.S_lower hp (below_size HB9.out))
  have HQ1 := Aside0.mk (Kd.S_lower hq (below_size HB9.out))
  have h4 := blk_lt HK4b.out
  clear hb1 hp hq k0 k1 HK2a HK4a HB9 d1 d2 d3 d4
  go_upto_region 10 with (fail)
  obtain ⟨W1, hW1⟩ : ∃ W1, W1 = w1.alloc (.cells #[.slice Ap P.length cp, .slice Aq Q.length cq] 25) := ⟨_, rfl⟩
  have HB2 := Aside0.mk (show Below w.heap.size w W1 from by rw [hW1]; exact HB1.out.alloc HB1.out.size _)
  have HK4c := Aside0.mk (show W1.heap[g4]? = some (.cells #[.slice none 0 0, .slice none 0 0] 25 (0, 0)) from by rw [hW1]; exact blk_alloc HK4b.out _)
  have HK6 := Aside0.mk (show W1.heap[w1.heap.size]? = some (.cells #[.slice Ap P.length cp, .slice Aq Q.length cq] 25 (0, 0)) from by rw [hW1]; exact heap_alloc_new w1 _)
  have HP2 := Aside0.mk (show Kd.S (Kd.slice 5 (Kd.int .u8)) 26 W1 w.heap.size (fun _ => True) (.slice Ap P.length cp) P from by rw [hW1]; exact Kd.S_alloc HP1.out _)
  have HQ2 := Aside0.mk (show Kd.S k42 42 W1 w.heap.size (fun _ => True) (.slice Aq Q.length cq) Q from by rw [hW1]; exact Kd.S_alloc HQ1.out _)
  have HZ6 := Aside0.mk HB1.out.size
  rw [← hW1]
  have hne := Nat.ne_of_lt h4
  clear hW1 HB1 HK4b HP1 HQ1
  generalize w1.heap.size = g6 at *
  go_upto_region 11 with (first | ((with_reducible refine gate_dst (N := 35) rfl ?_); refine Kd.R_make (Kd.int .u8) _ 5 rfl (N := 35) rfl 26 _ _ rfl 64 rfl rfl Try.underlying26 (.int .u8 0) 1 info5 rfl (by decide) (by decide) 0 (ok := fun _ => True) (okp := fun _ => True) rfl (fun _ hk => hk) trivial (by decide) (by decide) (Below.refl _ _) (Nat.le_refl _) ?_; intro v35 w10 ho hb hg_ hnew_; have HO := Aside0.mk ho; have HBm := Aside0.mk hb; clear ho hb hg_ hnew_))
  rw [show (64 : Int).toNat = 64 from rfl] at HO
  obtain ⟨Av, cv, ev⟩ := Kd.R_slice HO.out
  rw [List.length_replicate] at ev
  subst ev
  have HB3 := Aside0.mk (below_step HB2.out HBm.out)
  have HK4d := Aside0.mk (blk_below HK4c.out HBm.out)
  have HK6d := Aside0.mk (blk_below HK6.out HBm.out)
  have HP3 := Aside0.mk (Kd.S_elder' HP2.out (Kd.R_base HO.out) HBm.out)
  have HQ3 := Aside0.mk (Kd.S_elder' HQ2.out (Kd.R_base HO.out) HBm.out)
  have HO3 := Aside0.mk (Kd.R_lower HO.out HB2.out.size)
  have HBK3 := Aside0.mk (Kd.C_below HBK.out HB3.out)
  clear HO HBm HB2 HK4c HK6 HP2 HQ2
  have hmin : min b.length (List.replicate 64 (0 : Int)).length = b.length := by rw [List.length_replicate]; omega
  have hpad : b.take b.length ++ (List.replicate 64 (0 : Int)).drop b.length = XD.padl b 64 := by
    unfold XD.padl
    rw [List.take_of_length_le (Nat.le_refl _), List.take_of_length_le h2, List.drop_replicate]
  have HMIN := Aside0.mk hmin
  have HPAD := Aside0.mk hpad
  clear hmin hpad
  go_upto_region 12 with (first | (refine Kd.R_copy (o := ⟨some 38, _, _, _, _, _⟩) (0 : Int) w.heap.size rfl (.tmp 36) (.tmp 37) 26 26 5 rfl Try.underlying26 (by kernel_rfl) (.slice Av 64 cv) (List.replicate 64 0) b Ab b.length cb (fun _ => True) rfl rfl HO3.out HBK3.out HB3.out HB3.out.size ?_; intro w11 hr hb hg; rw [HMIN.out] at hr ⊢; rw [HPAD.out] at hr; have HO4 := Aside0.mk hr; have HB4 := Aside0.mk hb; have HG4 := Aside0.mk hg; clear hr hb hg))
  have HK4e := Aside0.mk (blk_grown HK4d.out HG4.out (Kd.R_ne HO3.out HK4d.out (by decide)))
  have HK6e := Aside0.mk (blk_grown HK6d.out HG4.out (Kd.R_ne HO3.out HK6d.out (by decide)))
  have HP4 := Aside0.mk (Kd.S_grown HP3.out HG4.out (fun k hk => hk.2))
  have HQ4 := Aside0.mk (Kd.S_grown HQ3.out HG4.out (fun k hk => hk.2))
  clear HG4 HO3 HB3 HK4d HK6d HP3 HQ3 HBK3
  have k1 : w11.cell? ⟨g6, 1, none⟩ = some (.slice Aq Q.length cq) := (blk_cell HK6e.out 1).trans rfl
  have hlen : (XD.padl b 64).length = 64 := XD.padl_len _ _
  obtain ⟨pb, hpb⟩ : ∃ pb, pb = XD.padl b 64 := ⟨_, rfl⟩
  rw [← hpb] at hlen HO4 HR
  have HLE := Aside0.mk hlen
  clear hlen hpb
  have hNE6 := Kd.S_ne HQ4.out HK6e.out (by decide)
  have hNE4 := Kd.S_ne HQ4.out HK4e.out (by decide)
  have HNE6 := Aside0.mk hNE6
  have HNE4 := Aside0.mk hNE4
  clear hNE6 hNE4
  go_upto_region 13 with (first | (at_builtin; refine Kd.S_append k42 w.heap.size rfl (.tmp 40) (.tmp 44) 23 42 (.agg #[(.int .i64 0), (.slice none 0 0)]) 32 rfl Try.underlying23 info42 rfl (by decide) (by decide) (.slice Aq Q.length cq) Q (⟨page, pb⟩ : S42) [.int .i64 page, .slice Av 64 cv] (fun _ => True) (fun k_ => some k_ = (Value.slice Av 64 cv).ownBlock) rfl rfl ?aP (fun k_ hk_ => ⟨trivial, ?ak⟩) (fun _ _ => trivial) (Kd.S_mono HQ4.out (fun k_ hk => ⟨trivial, hk.2⟩)) HB4.out HB4.out.size (by omega) ?_; (case aP => exact k42_mkM _ _ _ (⟨page, pb⟩ : S42) (Kd.R_mono (Kd.R_tight rfl HO4.out) (fun _ h_ => h_))); (case ak => obtain ⟨cq_, hcq_⟩ := Kd.R_typed HO4.out k_ hk_.symm; exact Kd.S_ne HQ4.out hcq_ (by decide)); intro v45 w12 ho hb hg hat; obtain ⟨A45, c45, e45⟩ := Kd.S_slice ho; subst e45; have HQ5 := Aside0.mk ho; have HB5 := Aside0.mk hb; have HK4f := Aside0.mk (blk_grown HK4e.out hg HNE4.out); have HK6f := Aside0.mk (blk_grown HK6e.out hg HNE6.out); have HP5 := Aside0.mk (Kd.S_over' HP4.out (Kd.S_typed HQ4.out) (by decide) hg); clear ho hb hg hat k1; have k1 : w12.cell? ⟨g6, 1, none⟩ = some (.slice Aq Q.length cq) := (blk_cell HK6f.out 1).trans rfl; have k0 : w12.cell? ⟨g6, 0, none⟩ = some (.slice Ap P.length cp) := (blk_cell HK6f.out 0).trans rfl; have f1 : w12.frozen? ⟨g6, 1, none⟩ = false := blk_frozen HK6f.out 1))
  have z0 : w12.cell? ⟨g4, 0, none⟩ = some (.slice none 0 0) := (blk_cell HK4f.out 0).trans rfl
  have z1 : w12.cell? ⟨g4, 1, none⟩ = some (.slice none 0 0) := (blk_cell HK4f.out 1).trans rfl
  have y0 : w12.frozen? ⟨g4, 0, none⟩ = false := blk_frozen HK4f.out 0
  have y1 : w12.frozen? ⟨g4, 1, none⟩ = false := blk_frozen HK4f.out 1
  have hne' := hne.symm
  go_wp2_with fail
  have hq5 := HQ5.out
  rw [show (Q ++ [(⟨page, pb⟩ : S42)]).length = Q.length + 1 by simp] at hq5
  have e0 := blk_far (p := ⟨g6, 1, none⟩) HK4f.out hne (.slice A45 (Q.length + 1) c45)
  have e1 := blk_set e0 0 (.slice Ap P.length cp)
  have e2 := blk_set e1 1 (.slice A45 (Q.length + 1) c45)
  refine bodyPost_ret (results_ct rfl _ _ g4 25 _ (0, 0) _ rfl e2 Try.underlying25 rfl (by kernel_rfl)) rfl ?_
  rw [HR.out]
  exact ⟨_, _, rfl, Or.inr ⟨Kd.S_mono (Kd.S_set (Kd.S_set (Kd.S_set HP5.out HK6f.out (by decide) 1 _) e0 (by decide) 0 _) e1 (by decide) 1 _) (fun _ _ => trivial), Kd.S_set (Kd.S_set (Kd.S_set hq5 HK6f.out (by decide) 1 _) e0 (by decide) 0 _) e1 (by decide) 1 _⟩, ((HB5.out.setCell HZ6.out _).setCell HGL.out _).setCell HGL.out _⟩
theorem rwrite_ok (A0 : Option Addr) (c0 : Nat) (P : List (List Int)) (A1 : Option Addr) (c1 : Nat) (Q : List S42) (page : Int) (Ab : Option Addr) (cb : Nat) (b : List Int) (w : World) (hd : Dv w A0 c0 P A1 c1 Q) (hf : Fit2 P Q) (hb : Kd.C (Kd.int .u8) w Ab b.length b) :
    Calls Try.prog 13 #[.agg #[.slice A0 P.length c0, .slice A1 Q.length c1], .int .i64 page, .slice Ab b.length cb] w (RP w A0 c0 P A1 c1 Q (writeV P Q page b)) := by
  obtain ⟨k2, h2⟩ := rvalid_ev P Q hf
  have e2 := h2 k2 (Nat.le_refl _)
  have hV := fun (v : Bool) (hv : validB P Q = v) (W : World) (hb : Below w.heap.size w W) => shapesearchref24_Valid.calls k2 A0 c0 P A1 c1 Q v W (Kd.C_below hd.hp hb) hd.cp (Kd.C_below hd.hq hb) hd.cq (e2.trans (congrArg some hv))
  by_cases hv : validB P Q = true
  · by_cases h1 : page < 0 ∨ (P.length : Int) ≤ page
    · exact rwrite_bad A0 c0 P A1 c1 Q page Ab b.length cb _ w h1 ⟨by unfold writeV; rw [if_pos hv, if_pos h1]⟩ ⟨hV true hv⟩
    · by_cases h3 : 64 < b.length
      · exact rwrite_long A0 c0 P A1 c1 Q page Ab b.length cb 8 _ w h1 (.inl ⟨h3, rfl⟩) ⟨by unfold writeV; rw [if_pos hv, if_neg h1, if_pos h3]⟩ ⟨hV true hv⟩
      · by_cases h4 : Q.length = 300
        · exact rwrite_long A0 c0 P A1 c1 Q page Ab b.length cb 26 _ w h1 (.inr ⟨h3, h4, rfl⟩) ⟨by unfold writeV; rw [if_pos hv, if_neg h1, if_neg h3, if_pos h4]⟩ ⟨hV true hv⟩
        · obtain ⟨k1, c1_⟩ := rcopy_ev P Q hf
          have e1 := c1_ k1 (Nat.le_refl _)
          have hq := (validB_ok hv).few
          exact rwrite_good A0 c0 P A1 c1 Q page Ab cb b _ w h1 (by omega) (by omega) hb ⟨by unfold writeV; rw [if_pos hv, if_neg h1, if_neg h3, if_neg h4]⟩ ⟨hV true hv⟩ ⟨fun W hb => shapesearchref24_Copy.calls k1 A0 c0 P A1 c1 Q P Q W (Kd.C_below hd.hp hb) hd.cp (Kd.C_below hd.hq hb) hd.cq e1⟩
  · have hv' := Bool.eq_false_iff.mpr hv
    exact rwrite_no A0 c0 P A1 c1 Q page Ab b.length cb _ w ⟨by unfold writeV; rw [if_neg hv]⟩ ⟨hV false hv'⟩
/-! ### the device's own functions, for any device -/
theorem crash_ev (P : List (List Int)) (Q : List S42) (keep : List Int) (h : Fit2 P Q) : Ev (fun k => device_Crash.f k P Q keep) (crashV (XD.keepAt keep) P Q) := by
  unfold device_Crash.f crashV
  refine Ev.bind (copied_is P Q h.1 h.2.1 h.2.2.1 h.2.2.2) (Ev.bind (valid_ev P Q h) ?_)
  by_cases hv : validB P Q = true
  · simp only [if_pos hv]
    exact Ev.pos (validB_ok hv).fits (Ev.now _)
  · simp only [if_neg hv]
    exact Ev.now _
theorem flush_ev (P : List (List Int)) (Q : List S42) (h : Fit2 P Q) : Ev (fun k => device_Flush.f k P Q) (crashV (fun _ => 64) P Q) := by
  unfold device_Flush.f crashV
  refine Ev.bind (copied_is P Q h.1 h.2.1 h.2.2.1 h.2.2.2) (Ev.bind (valid_ev P Q h) ?_)
  by_cases hv : validB P Q = true
  · simp only [if_pos hv]
    exact Ev.pos (validB_ok hv).fits (Ev.now _)
  · simp only [if_neg hv]
    exact Ev.now _
def chkV (P : List (List Int)) (Q : List S42) (page : Int) : Int := if validB P Q = true then (if page < 0 ∨ (P.length : Int) ≤ page then 22 else 0) else 23
theorem checked_ev (P : List (List Int)) (Q : List S42) (page : Int) (h : Fit2 P Q) : Ev (fun k => device_checked.f k P Q page) (chkV P Q page) := by
  unfold device_checked.f chkV
  refine Ev.bind (valid_ev P Q h) ?_
  by_cases hv : validB P Q = true
  · simp only [if_pos hv]
    by_cases h1 : page < 0
    · rw [if_pos (Or.inl h1)]
      exact Ev.pos h1 (Ev.now _)
    · refine Ev.neg h1 ?_
      by_cases h2 : (P.length : Int) ≤ page
      · rw [if_pos (Or.inr h2)]
        exact Ev.pos (by omega) (Ev.now _)
      · rw [show (if page < 0 ∨ (P.length : Int) ≤ page then (22 : Int) else 0) = 0 from if_neg (by omega)]
        exact Ev.neg (by omega) (Ev.now _)
  · simp only [if_neg hv]
    exact Ev.now _
theorem write_ev (P : List (List Int)) (Q : List S42) (page : Int) (b : List Int) (h : Fit2 P Q) : Ev (fun k => device_Write.f k P Q page b) (writeV P Q page b) := by
  have hc := checked_ev P Q page h
  unfold device_Write.f writeV
  unfold chkV at hc
  refine Ev.bind (copied_is P Q h.1 h.2.1 h.2.2.1 h.2.2.2) (Ev.bind hc ?_)
  by_cases hv : validB P Q = true
  · simp only [if_pos hv]
    by_cases h1 : page < 0 ∨ (P.length : Int) ≤ page
    · simp only [if_pos h1]
      exact Ev.neg (by decide) (Ev.now _)
    · simp only [if_neg h1]
      refine Ev.pos trivial ?_
      by_cases h3 : 64 < b.length
      · simp only [if_pos h3]
        exact Ev.pos (by omega) (Ev.now _)
      · simp only [if_neg h3]
        refine Ev.neg (by omega) ?_
        by_cases h4 : Q.length = 300
        · simp only [if_pos h4]
          exact Ev.pos (by omega) (Ev.now _)
        · simp only [if_neg h4]
          refine Ev.neg (by omega) ?_
          have e := padded_is b 64 (by decide)
          rw [show ((64 : Nat) : Int) = 64 from rfl] at e
          rw [e]
          simp only [Option.bind_some]
          exact Ev.pos (by have := h.2.1; omega) (Ev.now _)
  · simp only [if_neg hv]
    exact Ev.neg (by decide) (Ev.now _)
def readV (P : List (List Int)) (Q : List S42) (page : Int) : List Int × Int := if validB P Q = true then (if page < 0 ∨ (P.length : Int) ≤ page then ([], 22) else (curQ (rd_L1 P page) page Q, 0)) else ([], 23)
theorem read_ev (P : List (List Int)) (Q : List S42) (page : Int) (h : Fit2 P Q) : Ev (fun k => device_Read.f k P Q page) (readV P Q page) := by
  have hc := checked_ev P Q page h
  unfold device_Read.f readV
  unfold chkV at hc
  refine Ev.bind hc ?_
  by_cases hv : validB P Q = true
  · simp only [if_pos hv]
    by_cases h1 : page < 0 ∨ (P.length : Int) ≤ page
    · simp only [if_pos h1]
      exact Ev.neg (by decide) (Ev.now _)
    · simp only [if_neg h1]
      have hok := validB_ok hv
      refine Ev.pos trivial (Ev.pos (by omega) (Ev.pos (by omega) ?_))
      obtain ⟨m, rfl⟩ := Int.eq_ofNat_of_zero_le (show 0 ≤ page by omega)
      have hm : m < P.length := by omega
      have e := read_l0 P (m : Int) Q (by have := hok.few; omega) (fun q hq => (hok.pend q hq).2.2) Q.length 0 P[m] (hok.pages _ (List.getElem_mem hm)) (by omega)
      rw [List.drop_zero] at e
      rw [L1_nat P m hm]
      exact e
  · simp only [if_neg hv]
    exact Ev.neg (by decide) (Ev.now _)
theorem rread_l0 (P : List (List Int)) (page : Int) (Q : List S42) (hq : Q.length ≤ 1000) (h64 : ∀ q ∈ Q, q.f1.length = 64) (d : Nat) : ∀ (i : Nat) (b : List Int), b.length = 64 → i + d = Q.length →
    Ev (fun k => shapesearchref24_Read.l0 k page b (i : Int) P Q) (curQ b page (Q.drop i), 0) := by
  induction d with
  | zero =>
    intro i b hb hi
    refine Ev.step (fun k => by rw [shapesearchref24_Read.l0]) (Ev.neg (by omega) ?_)
    simp only [Option.bind_some]
    rw [List.drop_eq_nil_of_le (by omega)]
    refine Ev.pos (by simp; omega) ?_
    exact Ev.now _
  | succ d ih =>
    intro i b hb hi
    have hlt : i < Q.length := by omega
    refine Ev.step (fun k => by rw [shapesearchref24_Read.l0]) (Ev.pos (by omega) (Ev.pos (by omega) ?_))
    rw [T_nat Q i hlt, dw_succ (by omega), List.drop_eq_getElem_cons hlt]
    by_cases h : Q[i].f0 = page
    · have e := ih (i + 1) Q[i].f1 (h64 _ (List.getElem_mem hlt)) (by omega)
      refine Ev.pos h ?_
      rw [curQ, List.foldl_cons, if_pos h]
      exact e
    · refine Ev.neg h ?_
      rw [curQ, List.foldl_cons, if_neg h]
      exact ih (i + 1) b hb (by omega)
theorem rread_ev (P : List (List Int)) (Q : List S42) (page : Int) (h : Fit2 P Q) : Ev (fun k => shapesearchref24_Read.f k P Q page) (readV P Q page) := by
  unfold shapesearchref24_Read.f readV
  refine Ev.bind (rvalid_ev P Q h) ?_
  by_cases hv : validB P Q = true
  · simp only [if_pos hv]
    by_cases h0 : page < 0
    · rw [if_pos (Or.inl h0)]
      refine Ev.pos h0 ?_
      refine Ev.step (fun k => by rw [shapesearchref24_Read.j0]) ?_
      exact Ev.pos rfl (Ev.now _)
    · refine Ev.neg h0 ?_
      by_cases h1 : (P.length : Int) ≤ page
      · rw [if_pos (Or.inr h1), decide_eq_true (show page ≥ (P.length : Int) by omega)]
        refine Ev.step (fun k => by rw [shapesearchref24_Read.j0]) ?_
        exact Ev.pos rfl (Ev.now _)
      · rw [if_neg (by omega), decide_eq_false (show ¬ page ≥ (P.length : Int) by omega)]
        have hok := validB_ok hv
        refine Ev.step (fun k => by rw [shapesearchref24_Read.j0]) (Ev.neg (by decide) (Ev.pos (by omega) (Ev.pos (by omega) ?_)))
        obtain ⟨m, rfl⟩ := Int.eq_ofNat_of_zero_le (show 0 ≤ page by omega)
        have hm : m < P.length := by omega
        rw [L1_nat P m hm]
        have e := rread_l0 P (m : Int) Q (by have := hok.few; omega) (fun q hq => (hok.pend q hq).2.2) Q.length 0 P[m] (hok.pages _ (List.getElem_mem hm)) (by omega)
        rw [List.drop_zero] at e
        exact e
  · simp only [if_neg hv]
    exact Ev.now _
/-! ### what is read, whatever else has changed -/
theorem cell_heap {W W' : World} (h : ∀ k, k < W.heap.size → W'.heap[k]? = W.heap[k]?) {a : Addr} {v : Value} (hc : W.cell? a = some v) : W'.cell? a = some v := (World.cell?_of_block (w := W) (h _ (World.block_lt_of_cell? W _ hc))).trans hc
theorem C_heap_int {k : IntKind} {W W' : World} (h : ∀ k, k < W.heap.size → W'.heap[k]? = W.heap[k]?) {A : Option Addr} {n : Nat} {xs : List Int} (hc : (Kd.int k).C W A n xs) : (Kd.int k).C W' A n xs := by
  refine ⟨hc.1, hc.2.1, fun hp => ?_⟩
  obtain ⟨ad, e, hx⟩ := hc.2.2 hp
  refine ⟨ad, e, fun j p hj => ?_⟩
  obtain ⟨c, c1, c2, c3⟩ := hx j p hj
  exact ⟨c, c1, c2, fun i u hu => cell_heap h (c3 i u hu)⟩
theorem C_heap_pages {W W' : World} (h : ∀ k, k < W.heap.size → W'.heap[k]? = W.heap[k]?) {A : Option Addr} {n : Nat} {xs : List (List Int)} (hc : (Kd.slice 5 (Kd.int .u8)).C W A n xs) : (Kd.slice 5 (Kd.int .u8)).C W' A n xs := by
  refine ⟨hc.1, hc.2.1, fun hp => ?_⟩
  obtain ⟨ad, e, hx⟩ := hc.2.2 hp
  refine ⟨ad, e, fun j p hj => ?_⟩
  obtain ⟨c, c1, c2, c3⟩ := hx j p hj
  obtain ⟨A1, c1', rfl, hl, hr⟩ := c2
  exact ⟨_, c1, ⟨A1, c1', rfl, hl, C_heap_int h hr⟩, fun i u hu => cell_heap h (c3 i u hu)⟩
theorem C_heap_pend {W W' : World} (h : ∀ k, k < W.heap.size → W'.heap[k]? = W.heap[k]?) {A : Option Addr} {n : Nat} {xs : List S42} (hc : k42.C W A n xs) : k42.C W' A n xs := by
  refine ⟨hc.1, hc.2.1, fun hp => ?_⟩
  obtain ⟨ad, e, hx⟩ := hc.2.2 hp
  refine ⟨ad, e, fun j p hj => ?_⟩
  obtain ⟨c, c1, c2, c3⟩ := hx j p hj
  obtain ⟨A1, c1', rfl, hl, hr⟩ := k42_open c2
  exact ⟨_, c1, k42_mk W' p hl (C_heap_int h hr), fun i u hu => cell_heap h (c3 i u hu)⟩
theorem Dv.V0 {W : World} {A0 A1 : Option Addr} {c0 c1 : Nat} {P : List (List Int)} {Q : List S42} (h : Dv W A0 c0 P A1 c1 Q) : Kd.V (Kd.slice 5 (Kd.int .u8)) 26 W W.heap.size (fun k_ => True) (.slice A0 P.length c0) P :=
  ⟨A0, c0, rfl, h.cp, fun W' hW => C_heap_pages (fun k hk => hW k trivial hk) h.hp⟩
theorem Dv.V1 {W : World} {A0 A1 : Option Addr} {c0 c1 : Nat} {P : List (List Int)} {Q : List S42} (h : Dv W A0 c0 P A1 c1 Q) : Kd.V k42 42 W W.heap.size (fun k_ => True) (.slice A1 Q.length c1) Q :=
  ⟨A1, c1, rfl, h.cq, fun W' hW => C_heap_pend (fun k hk => hW k trivial hk) h.hq⟩
/-- A device that is read, with the blocks it lies in. -/
structure DvF (W : World) (ok : Nat → Prop) (A0 : Option Addr) (c0 : Nat) (P : List (List Int)) (A1 : Option Addr) (c1 : Nat) (Q : List S42) : Prop where
  hp : Kd.F (Kd.slice 5 (Kd.int .u8)) W ok A0 P.length P
  cp : P.length ≤ c0
  hq : Kd.F k42 W ok A1 Q.length Q
  cq : Q.length ≤ c1
section
variable {W W1 : World} {ok ok' : Nat → Prop} {A0 A1 : Option Addr} {c0 c1 : Nat} {P : List (List Int)} {Q : List S42}
theorem DvF.dv (h : DvF W ok A0 c0 P A1 c1 Q) : Dv W A0 c0 P A1 c1 Q := ⟨Kd.F_now h.hp, h.cp, Kd.F_now h.hq, h.cq⟩
theorem DvF.below (h : DvF W ok A0 c0 P A1 c1 Q) (hb : Below W.heap.size W W1) : DvF W1 ok A0 c0 P A1 c1 Q := ⟨Kd.F_below h.hp hb, h.cp, Kd.F_below h.hq hb, h.cq⟩
theorem DvF.mono (h : DvF W ok A0 c0 P A1 c1 Q) (hok : ∀ k, ok k → ok' k) : DvF W ok' A0 c0 P A1 c1 Q := ⟨Kd.F_mono h.hp hok, h.cp, Kd.F_mono h.hq hok, h.cq⟩
theorem DvF.far (h : DvF W ok A0 c0 P A1 c1 Q) {p : Addr} (hok : ∀ k, ok k → k ≠ p.block) (u : Value) : DvF (W.setCell p u) ok A0 c0 P A1 c1 Q := ⟨Kd.F_far h.hp hok u, h.cp, Kd.F_far h.hq hok u, h.cq⟩
theorem Dv.F {w : World} (h : Dv w A0 c0 P A1 c1 Q) (hb : Below w.heap.size w W) : DvF W (fun k => k < w.heap.size) A0 c0 P A1 c1 Q :=
  ⟨fun W' hW => C_heap_pages (W := w) (fun k hk => (hW k hk (Nat.lt_of_lt_of_le hk hb.size)).trans (hb.block k hk)) h.hp, h.cp, fun W' hW => C_heap_pend (W := w) (fun k hk => (hW k hk (Nat.lt_of_lt_of_le hk hb.size)).trans (hb.block k hk)) h.hq, h.cq⟩
theorem DvF.of_S {n0 n1 base base' : Nat} (h0 : Kd.S (Kd.slice 5 (Kd.int .u8)) 26 W base ok (.slice A0 n0 c0) P) (h1 : Kd.S k42 42 W base' ok (.slice A1 n1 c1) Q) : n0 = P.length ∧ n1 = Q.length ∧ DvF W ok A0 c0 P A1 c1 Q := by
  obtain ⟨e0, l0, r0⟩ := Kd.R_reads' (Kd.S_R h0)
  obtain ⟨e1, l1, r1⟩ := Kd.R_reads' (Kd.S_R h1)
  subst e0
  subst e1
  exact ⟨rfl, rfl, Kd.S_F h0, l0, Kd.S_F h1, l1⟩
end
/-- What stands in a device's result, read: it lies below L, or is new. -/
def RD (L : Nat) (W : World) (r : List (List Int) × List S42 × Int) (e : Ending) (w' : World) : Prop :=
  ∃ (A0 : Option Addr) (c0 : Nat) (A1 : Option Addr) (c1 : Nat), e = .returned (.tuple #[.agg #[.slice A0 r.1.length c0, .slice A1 r.2.1.length c1], .int .i64 r.2.2]) ∧ DvF w' (fun k => k < L ∨ W.heap.size ≤ k) A0 c0 r.1 A1 c1 r.2.1 ∧ Below W.heap.size W w'
theorem RD.of_S {L : Nat} {W w' : World} {r1 : List (List Int)} {r2 : List S42} {r3 : Int} {e : Ending} (h : ∃ v0_ v1_ : Value, e = .returned (.tuple #[.agg #[v0_, v1_], .int .i64 r3]) ∧ Kd.S (Kd.slice 5 (Kd.int .u8)) 26 w' W.heap.size (fun _ => True) v0_ r1 ∧ Kd.S k42 42 w' W.heap.size (fun _ => True) v1_ r2 ∧ Below W.heap.size W w') : RD L W (r1, r2, r3) e w' := by
  obtain ⟨v0, v1, rfl, s0, s1, hb⟩ := h
  obtain ⟨Ap, cp, rfl⟩ := Kd.S_slice s0
  obtain ⟨Aq, cq, rfl⟩ := Kd.S_slice s1
  exact ⟨Ap, cp, Aq, cq, rfl, (DvF.of_S (Kd.S_mono (Kd.S_bound s0) (fun k hk => Or.inr hk.2.1)) (Kd.S_mono (Kd.S_bound s1) (fun k hk => Or.inr hk.2.1))).2.2, hb⟩
theorem RP.read {L : Nat} {W w' : World} {A0 A1 : Option Addr} {c0 c1 : Nat} {P : List (List Int)} {Q : List S42} {r : List (List Int) × List S42 × Int} {e : Ending} (hd : DvF W (fun k => k < L) A0 c0 P A1 c1 Q) (h : RP W A0 c0 P A1 c1 Q r e w') : RD L W r e w' := by
  obtain ⟨v0, v1, rfl, hres, hb⟩ := h
  rcases hres with ⟨rfl, rfl, e0, e1⟩ | ⟨s0, s1⟩
  · rw [← e0] at hd
    refine ⟨A0, c0, A1, c1, by rw [e0, e1], ?_, hb⟩
    rw [e1]
    exact (hd.below hb).mono (fun k hk => Or.inl hk)
  · exact RD.of_S ⟨v0, v1, rfl, s0, s1, hb⟩
end Go.Proofs.Ythpiafbloebpjaa.PDeviceSteps
