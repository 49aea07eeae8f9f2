/- This file proves that a page without pending writes survives every crash, that a crash that keeps everything is a flush, what a crash leaves of a page with one write, and that reads see writes at once. -/
import Derived.Test.YthpiafbloebpjaaPDeviceKeepsx8
import Derived.Test.YthpiafbloebpjaaBase
set_option linter.unusedVariables false
namespace Go.Proofs.Ythpiafbloebpjaa.Pure
open Go.RowKit Go.Proofs.Ythpiafbloebpjaa.PDeviceKeeps Go.Proofs.YthpiafbloebpjaaW.PrintWords Go.Proofs.YthpiafbloebpjaaW.PrintLast Go.Proofs.YthpiafbloebpjaaW.PrintMore Go.Proofs.Ythpiafbloebpjaa.Base
theorem dw_succ {i : Nat} (h : i ≤ 1000000000) : wrap64 ((i : Int) + 1) = ((i + 1 : Nat) : Int) := by rw [w64 (by omega) (by omega)]; omega
theorem L1_nat (P : List (List Int)) (i : Nat) (h : i < P.length) : rd_L1 P (i : Int) = P[i] := by
  unfold rd_L1
  rw [Int.toNat_natCast, List.getD_eq_getElem?_getD, List.getElem?_eq_getElem h]
  rfl
theorem T_nat (Q : List S42) (i : Nat) (h : i < Q.length) : rd_T42 Q (i : Int) = Q[i] := by
  unfold rd_T42
  rw [Int.toNat_natCast, List.getD_eq_getElem?_getD, List.getElem?_eq_getElem h]
  rfl
theorem padl_self (l : List Int) : XD.padl l l.length = l := by unfold XD.padl; simp
theorem padl_full (l : List Int) (m : Nat) (h : l.length = m) : XD.padl l m = l := by rw [← h]; exact padl_self l
theorem padded_is (l : List Int) (m : Nat) (hm : m ≤ 1000000) : device_padded.f l (m : Int) = some (XD.padl l m) := by
  unfold device_padded.f
  rw [if_pos (by omega), Int.toNat_natCast]
theorem rd_padl (l : List Int) (m b : Nat) (hb : b < m) : rd (XD.padl l m) (b : Int) = if b < l.length then rd l (b : Int) else 0 := by
  show rd (l.take m ++ List.replicate (m - l.length) 0) (b : Int) = _
  have hl : b < (l.take m ++ List.replicate (m - l.length) (0 : Int)).length := by rw [List.length_append, List.length_take, List.length_replicate]; omega
  rw [rd_nat _ b hl]
  by_cases h : b < l.length
  · rw [if_pos h, rd_nat l b h, List.getElem_append_left (by rw [List.length_take]; omega), List.getElem_take]
  · rw [if_neg h, List.getElem_append_right (by rw [List.length_take]; omega), List.getElem_replicate]
/-- A valid device. -/
structure DevOk (P : List (List Int)) (Q : List S42) : Prop where
  lo : 1 ≤ P.length
  hi : P.length ≤ 256
  pages : ∀ p ∈ P, p.length = 64
  few : Q.length ≤ 300
  pend : ∀ q ∈ Q, 0 ≤ q.f0 ∧ q.f0 < (P.length : Int) ∧ q.f1.length = 64
theorem copied_l1 (P : List (List Int)) (Q : List S42) (hq : Q.length ≤ 1000000) (hb : ∀ q ∈ Q, q.f1.length ≤ 1000000) (d : Nat) : ∀ i : Nat, i + d = Q.length →
    Ev (fun k => device_copied.l1 k Q (Q.length : Int) (i : Int) P (Q.take i)) (P, Q) := by
  induction d with
  | zero =>
    intro i hi
    refine Ev.step (fun k => by rw [device_copied.l1]) (Ev.neg (by omega) ?_)
    rw [List.take_of_length_le (by omega)]
    exact Ev.now _
  | succ d ih =>
    intro i hi
    have hlt : i < Q.length := by omega
    refine Ev.step (fun k => by rw [device_copied.l1]) (Ev.pos (by omega) (Ev.pos (by omega) (Ev.pos (by omega) ?_)))
    rw [T_nat Q i hlt, padded_is _ _ (hb _ (List.getElem_mem hlt)), padl_self]
    simp only [Option.bind_some]
    refine Ev.pos (by rw [List.length_take]; omega) ?_
    have e := ih (i + 1) (by omega)
    rw [List.take_succ_eq_append_getElem hlt] at e
    rw [dw_succ (by omega)]
    exact e
theorem copied_l0 (P : List (List Int)) (Q : List S42) (hp : P.length ≤ 1000000) (hq : Q.length ≤ 1000000) (ha : ∀ p ∈ P, p.length ≤ 1000000) (hb : ∀ q ∈ Q, q.f1.length ≤ 1000000) (d : Nat) : ∀ i : Nat, i + d = P.length →
    Ev (fun k => device_copied.l0 k P (P.length : Int) (i : Int) P Q (P.take i)) (P, Q) := by
  induction d with
  | zero =>
    intro i hi
    refine Ev.step (fun k => by rw [device_copied.l0]) (Ev.neg (by omega) ?_)
    rw [List.take_of_length_le (by omega)]
    exact copied_l1 P Q hq hb Q.length 0 (by omega)
  | succ d ih =>
    intro i hi
    have hlt : i < P.length := by omega
    refine Ev.step (fun k => by rw [device_copied.l0]) (Ev.pos (by omega) (Ev.pos (by omega) (Ev.pos (by omega) ?_)))
    rw [L1_nat P i hlt, padded_is _ _ (ha _ (List.getElem_mem hlt)), padl_self]
    simp only [Option.bind_some]
    refine Ev.pos (by rw [List.length_take]; omega) ?_
    have e := ih (i + 1) (by omega)
    rw [List.take_succ_eq_append_getElem hlt] at e
    rw [dw_succ (by omega)]
    exact e
theorem copied_is (P : List (List Int)) (Q : List S42) (hp : P.length ≤ 1000000) (hq : Q.length ≤ 1000000) (ha : ∀ p ∈ P, p.length ≤ 1000000) (hb : ∀ q ∈ Q, q.f1.length ≤ 1000000) : Ev (fun k => device_copied.f k P Q) (P, Q) := by
  unfold device_copied.f
  exact copied_l0 P Q hp hq ha hb P.length 0 (by omega)
theorem DevOk.copied {P : List (List Int)} {Q : List S42} (h : DevOk P Q) : Ev (fun k => device_copied.f k P Q) (P, Q) :=
  copied_is P Q (by have := h.hi; omega) (by have := h.few; omega) (fun p hp => by have := h.pages p hp; omega) (fun q hq => by have := (h.pend q hq).2.2; omega)
theorem valid_l1 {P : List (List Int)} {Q : List S42} (h : DevOk P Q) (d : Nat) : ∀ i : Nat, i + d = Q.length → Ev (fun k => device_Valid.l1 k Q (Q.length : Int) (i : Int) P Q) true := by
  have hq := h.few
  induction d with
  | zero =>
    intro i hi
    exact Ev.step (fun k => by rw [device_Valid.l1]) (Ev.neg (by omega) (Ev.now _))
  | succ d ih =>
    intro i hi
    have hlt : i < Q.length := by omega
    obtain ⟨q1, q2, q3⟩ := h.pend _ (List.getElem_mem hlt)
    refine Ev.step (fun k => by rw [device_Valid.l1]) (Ev.pos (by omega) (Ev.pos (by omega) (Ev.pos (by omega) ?_)))
    rw [T_nat Q i hlt, dw_succ (by omega)]
    exact Ev.neg (by omega) (Ev.neg (by omega) (Ev.pos (by omega) (ih (i + 1) (by omega))))
theorem valid_l0 {P : List (List Int)} {Q : List S42} (h : DevOk P Q) (d : Nat) : ∀ i : Nat, i + d = P.length → Ev (fun k => device_Valid.l0 k P (P.length : Int) (i : Int) P Q) true := by
  have hp := h.hi
  induction d with
  | zero =>
    intro i hi
    refine Ev.step (fun k => by rw [device_Valid.l0]) (Ev.neg (by omega) ?_)
    exact valid_l1 h Q.length 0 (by omega)
  | succ d ih =>
    intro i hi
    have hlt : i < P.length := by omega
    have h64 := h.pages _ (List.getElem_mem hlt)
    refine Ev.step (fun k => by rw [device_Valid.l0]) (Ev.pos (by omega) (Ev.pos (by omega) (Ev.pos (by omega) ?_)))
    rw [L1_nat P i hlt, dw_succ (by omega)]
    exact Ev.pos (by omega) (ih (i + 1) (by omega))
theorem DevOk.valid {P : List (List Int)} {Q : List S42} (h : DevOk P Q) : Ev (fun k => device_Valid.f k P Q) true := by
  have h1 := h.lo
  have h2 := h.hi
  have h3 := h.few
  unfold device_Valid.f
  refine Ev.neg (by omega) (Ev.neg (by omega) ?_)
  rw [decide_eq_false (by omega)]
  refine Ev.step (fun k => by rw [device_Valid.j0]) (Ev.neg (by decide) ?_)
  exact valid_l0 h P.length 0 (by omega)
theorem DevOk.checked {P : List (List Int)} {Q : List S42} (h : DevOk P Q) (page : Int) (h0 : 0 ≤ page) (h1 : page < (P.length : Int)) : Ev (fun k => device_checked.f k P Q page) 0 := by
  unfold device_checked.f
  exact Ev.bind h.valid (Ev.pos rfl (Ev.neg (by omega) (Ev.neg (by omega) (Ev.now _))))
theorem DevOk.write {P : List (List Int)} {Q : List S42} (h : DevOk P Q) (page : Int) (h0 : 0 ≤ page) (h1 : page < (P.length : Int)) (b : List Int) (hb : b.length ≤ 64) (hf : Q.length < 300) :
    Ev (fun k => device_Write.f k P Q page b) (P, Q ++ [(⟨page, XD.padl b 64⟩ : S42)], 0) := by
  unfold device_Write.f
  refine Ev.bind h.copied (Ev.bind (h.checked page h0 h1) (Ev.pos rfl (Ev.neg (by omega) (Ev.neg (by omega) ?_))))
  have e := padded_is b 64 (by decide)
  rw [show ((64 : Nat) : Int) = 64 from rfl] at e
  rw [e]
  simp only [Option.bind_some]
  exact Ev.pos (by omega) (Ev.now _)
theorem DevOk.wrote {P : List (List Int)} {Q : List S42} (h : DevOk P Q) (page : Int) (h0 : 0 ≤ page) (h1 : page < (P.length : Int)) (b : List Int) (hf : Q.length < 300) : DevOk P (Q ++ [(⟨page, XD.padl b 64⟩ : S42)]) :=
  ⟨h.lo, h.hi, h.pages, by rw [List.length_append]; simp; omega, fun q hq => by
    rcases List.mem_append.1 hq with hq | hq
    · exact h.pend q hq
    · rw [List.mem_singleton] at hq
      subst hq
      exact ⟨h0, h1, XD.padl_len _ _⟩⟩
/-- What a page holds, pending writes and all. -/
def curQ (p : List Int) (page : Int) (Q : List S42) : List Int := Q.foldl (fun b q => if q.f0 = page then q.f1 else b) p
theorem read_l0 (P : List (List Int)) (page : Int) (Q : List S42) (hq : Q.length ≤ 1000) (h64 : ∀ q ∈ Q, q.f1.length = 64) (d : Nat) : ∀ (i : Nat) (b : List Int), b.length = 64 → i + d = Q.length →
    Ev (fun k => device_Read.l0 k page b Q (Q.length : Int) (i : Int)) (curQ b page (Q.drop i), 0) := by
  induction d with
  | zero =>
    intro i b hb hi
    refine Ev.step (fun k => by rw [device_Read.l0]) (Ev.neg (by omega) ?_)
    have e := padded_is b 64 (by decide)
    rw [show ((64 : Nat) : Int) = 64 from rfl, padl_full b 64 hb] at e
    rw [e, List.drop_eq_nil_of_le (by omega)]
    exact Ev.now _
  | succ d ih =>
    intro i b hb hi
    have hlt : i < Q.length := by omega
    refine Ev.step (fun k => by rw [device_Read.l0]) (Ev.pos (by omega) (Ev.pos (by omega) (Ev.pos (by omega) ?_)))
    rw [T_nat Q i hlt, dw_succ (by omega), List.drop_eq_getElem_cons hlt]
    by_cases h : Q[i].f0 = page
    · have e := ih (i + 1) Q[i].f1 (h64 _ (List.getElem_mem hlt)) (by omega)
      refine Ev.pos h ?_
      rw [curQ, List.foldl_cons, if_pos h]
      exact e
    · refine Ev.neg h ?_
      rw [curQ, List.foldl_cons, if_neg h]
      exact ih (i + 1) b hb (by omega)
theorem DevOk.read {P : List (List Int)} {Q : List S42} (h : DevOk P Q) (page : Nat) (h1 : page < P.length) : Ev (fun k => device_Read.f k P Q (page : Int)) (curQ P[page] (page : Int) Q, 0) := by
  unfold device_Read.f
  refine Ev.bind (h.checked _ (by omega) (by omega)) (Ev.pos rfl (Ev.pos (by omega) (Ev.pos (by omega) ?_)))
  rw [L1_nat P page h1]
  have e := read_l0 P (page : Int) Q (by have := h.few; omega) (fun q hq => (h.pend q hq).2.2) Q.length 0 P[page] (h.pages _ (List.getElem_mem h1)) (by omega)
  rw [List.drop_zero] at e
  exact e
theorem DevOk.fits {P : List (List Int)} {Q : List S42} (h : DevOk P Q) : fit P Q = true := by
  unfold fit
  simp only [Bool.and_eq_true, List.all_eq_true, beq_iff_eq, decide_eq_true_eq]
  exact ⟨⟨h.pages, by have := h.few; omega⟩, fun q hq => ⟨⟨(h.pend q hq).1, (h.pend q hq).2.1⟩, (h.pend q hq).2.2⟩⟩
theorem DevOk.crash {P : List (List Int)} {Q : List S42} (h : DevOk P Q) (keep : List Int) : Ev (fun k => device_Crash.f k P Q keep) (carr (XD.keepAt keep) Q P Q.length, [], 0) := by
  unfold device_Crash.f
  exact Ev.bind h.copied (Ev.bind h.valid (Ev.pos rfl (Ev.pos h.fits (Ev.now _))))
theorem DevOk.flush {P : List (List Int)} {Q : List S42} (h : DevOk P Q) : Ev (fun k => device_Flush.f k P Q) (carr (fun _ => 64) Q P Q.length, [], 0) := by
  unfold device_Flush.f
  exact Ev.bind h.copied (Ev.bind h.valid (Ev.pos rfl (Ev.pos h.fits (Ev.now _))))
theorem DevOk.carried {P : List (List Int)} {Q : List S42} (h : DevOk P Q) (n : Nat → Int) (hn : ∀ i, 0 ≤ n i ∧ n i ≤ 64) : DevOk (carr n Q P Q.length) [] :=
  ⟨by rw [carr_len]; exact h.lo, by rw [carr_len]; exact h.hi, carr_64 n Q P h.pages hn (fit_is h.fits).2.2 _ (Nat.le_refl _), by simp, fun q hq => by cases hq⟩
theorem new_l0 (n : Nat) (hn : n ≤ 256) (d : Nat) : ∀ i : Nat, i + d = n → Ev (fun k => device_New.l0 k (n : Int) (i : Int) (List.replicate i (List.replicate 64 0))) (List.replicate n (List.replicate 64 0), [], 0) := by
  induction d with
  | zero =>
    intro i hi
    obtain rfl : i = n := by omega
    exact Ev.step (fun k => by rw [device_New.l0]) (Ev.neg (by omega) (Ev.now _))
  | succ d ih =>
    intro i hi
    refine Ev.step (fun k => by rw [device_New.l0]) (Ev.pos (by omega) (Ev.pos (by decide) (Ev.pos (by rw [List.length_replicate]; omega) ?_)))
    have e := ih (i + 1) (by omega)
    rw [List.replicate_succ'] at e
    rw [dw_succ (by omega)]
    exact e
theorem new_is (n : Nat) (h1 : 1 ≤ n) (h2 : n ≤ 256) : Ev (fun k => device_New.f k (n : Int)) (List.replicate n (List.replicate 64 0), [], 0) := by
  unfold device_New.f
  refine Ev.neg (by omega) ?_
  rw [decide_eq_false (by omega)]
  refine Ev.step (fun k => by rw [device_New.j0]) (Ev.neg (by decide) ?_)
  exact new_l0 n h2 n 0 (by omega)
theorem DevOk.new (n : Nat) (h1 : 1 ≤ n) (h2 : n ≤ 256) : DevOk (List.replicate n (List.replicate 64 0)) [] :=
  ⟨by rw [List.length_replicate]; exact h1, by rw [List.length_replicate]; exact h2, fun p hp => by rw [List.eq_of_mem_replicate hp, List.length_replicate], by simp, fun q hq => by cases hq⟩
theorem same_l1 (P : List (List Int)) (Q : List S42) (hq : Q.length ≤ 1000000) (d : Nat) : ∀ i : Nat, i + d = Q.length → Ev (fun k => shapesearchref24_Same.l1 k (i : Int) P Q P Q) true := by
  induction d with
  | zero =>
    intro i hi
    exact Ev.step (fun k => by rw [shapesearchref24_Same.l1]) (Ev.neg (by omega) (Ev.now _))
  | succ d ih =>
    intro i hi
    refine Ev.step (fun k => by rw [shapesearchref24_Same.l1]) (Ev.pos (by omega) (Ev.pos (by omega) (Ev.pos (by omega) (Ev.pos rfl (Ev.pos rfl ?_)))))
    rw [dw_succ (by omega)]
    exact ih (i + 1) (by omega)
theorem same_l0 (P : List (List Int)) (Q : List S42) (hp : P.length ≤ 1000000) (hq : Q.length ≤ 1000000) (d : Nat) : ∀ i : Nat, i + d = P.length → Ev (fun k => shapesearchref24_Same.l0 k (i : Int) P Q P Q) true := by
  induction d with
  | zero =>
    intro i hi
    refine Ev.step (fun k => by rw [shapesearchref24_Same.l0]) (Ev.neg (by omega) ?_)
    exact same_l1 P Q hq Q.length 0 (by omega)
  | succ d ih =>
    intro i hi
    refine Ev.step (fun k => by rw [shapesearchref24_Same.l0]) (Ev.pos (by omega) (Ev.pos (by omega) (Ev.pos (by omega) (Ev.pos rfl ?_))))
    rw [dw_succ (by omega)]
    exact ih (i + 1) (by omega)
theorem same_self (P : List (List Int)) (Q : List S42) (hp : P.length ≤ 1000000) (hq : Q.length ≤ 1000000) : Ev (fun k => shapesearchref24_Same.f k P Q P Q) true := by
  unfold shapesearchref24_Same.f
  refine Ev.pos rfl ?_
  rw [show ((Q.length : Int) != (Q.length : Int)) = false by simp]
  refine Ev.step (fun k => by rw [shapesearchref24_Same.j0]) (Ev.neg (by decide) ?_)
  exact same_l0 P Q hp hq P.length 0 (by omega)
theorem awake_is : Ev (fun k => shapesearchlaw24_awake.f k) true := by
  have d0 := DevOk.new 2 (by decide) (by decide)
  have e0 := new_is 2 (by decide) (by decide)
  have e1 := d0.write 1 (by decide) (by rw [List.length_replicate]; decide) [1, 2] (by decide) (by decide)
  have d1 := d0.wrote 1 (by decide) (by rw [List.length_replicate]; decide) [1, 2] (by decide)
  have e2 := d1.crash [1]
  have d2 := d1.carried (XD.keepAt [1]) (keepAt_range [1])
  have e3 := d2.read 1 (by rw [carr_len, List.length_replicate]; decide)
  unfold shapesearchlaw24_awake.f
  refine Ev.bind e0 (Ev.bind e1 (Ev.bind e2 (Ev.bind e3 ?_)))
  refine Ev.pos rfl (Ev.pos rfl (Ev.pos rfl (Ev.pos rfl (Ev.pos (by decide) (Ev.pos (by decide) (Ev.pos (by decide) (Ev.pos (by decide) ?_)))))))
  exact Ev.now true
theorem dk_l0 (old now_ : List Int) (a2 n : Int) (r p : List Int) (hr : r.length = 64) (hp : p.length = 64) (ho : old.length ≤ 64) (hw : now_.length ≤ 64) (ha : -128 ≤ a2 ∧ a2 ≤ 127)
    (h1 : ∀ b : Nat, b < 64 → rd r (b : Int) = if b < now_.length then rd now_ (b : Int) else 0)
    (h2 : ∀ b : Nat, b < 64 → rd p (b : Int) = if (b : Int) < a2 then (if b < now_.length then rd now_ (b : Int) else 0) else (if b < old.length then rd old (b : Int) else 0))
    (d : Nat) : ∀ b : Nat, b + d = 64 → Ev (fun k => shapesearchlaw24_DeviceKeeps.l0 k old now_ a2 r p (b : Int)) true := by
  induction d with
  | zero =>
    intro b hb
    exact Ev.step (fun k => by rw [shapesearchlaw24_DeviceKeeps.l0]) (Ev.neg (by omega) (Ev.bind awake_is (Ev.now _)))
  | succ d ih =>
    intro b hb
    have i1 := h1 b (by omega)
    have i2 := h2 b (by omega)
    have ih1 := ih (b + 1) (by omega)
    have key : ∀ was : Int, was = (if b < old.length then rd old (b : Int) else 0) → Ev (fun k => shapesearchlaw24_DeviceKeeps.j3 k old now_ a2 r p (b : Int) was 0) true := by
      intro was hwas
      rw [← hwas] at i2
      refine Ev.step (fun k => by rw [shapesearchlaw24_DeviceKeeps.j3]) ?_
      rw [w64 (by omega) (by omega), dw_succ (by omega)]
      by_cases c : b < now_.length
      · rw [if_pos c] at i1 i2
        refine Ev.pos (by omega) (Ev.pos (by omega) (Ev.pos (by omega) (Ev.pos i1 ?_)))
        by_cases ca : (b : Int) < a2
        · rw [if_pos ca] at i2
          exact Ev.pos ca (Ev.pos (by omega) (Ev.pos i2 (Ev.neg (by omega) ih1)))
        · rw [if_neg ca] at i2
          exact Ev.neg ca (Ev.pos (by omega) (Ev.pos (by omega) (Ev.pos i2 ih1)))
      · rw [if_neg c] at i1 i2
        refine Ev.neg (by omega) (Ev.pos (by omega) (Ev.pos (by omega) (Ev.pos i1 ?_)))
        by_cases ca : (b : Int) < a2
        · rw [if_pos ca] at i2
          exact Ev.pos ca (Ev.pos (by omega) (Ev.pos i2 (Ev.neg (by omega) ih1)))
        · rw [if_neg ca] at i2
          exact Ev.neg ca (Ev.pos (by omega) (Ev.pos (by omega) (Ev.pos i2 ih1)))
    refine Ev.step (fun k => by rw [shapesearchlaw24_DeviceKeeps.l0]) (Ev.pos (by omega) ?_)
    by_cases c : b < old.length
    · exact Ev.pos (by omega) (Ev.pos (by omega) (key _ (by rw [if_pos c])))
    · exact Ev.neg (by omega) (key _ (by rw [if_neg c]))
theorem rd_mix (u v : List Int) (n b : Nat) (hu : u.length = 64) (hv : v.length = 64) (hn : n ≤ 64) (hb : b < 64) : rd (u.take n ++ v.drop n) (b : Int) = if b < n then rd u (b : Int) else rd v (b : Int) := by
  have hl : (u.take n ++ v.drop n).length = 64 := by rw [List.length_append, List.length_take, List.length_drop]; omega
  rw [rd_nat _ b (by omega)]
  by_cases h : b < n
  · rw [if_pos h, rd_nat u b (by omega), List.getElem_append_left (by rw [List.length_take]; omega), List.getElem_take]
  · rw [if_neg h, rd_nat v b (by omega), List.getElem_append_right (by rw [List.length_take]; omega), List.getElem_drop]
    congr 1
    rw [List.length_take]
    omega
theorem DeviceKeeps : shapesearchlaw24_DeviceKeeps.Pure := by
  intro old now_ a2 a3 _ _ _ _ _ _ ha2 ha3
  have ha := b_i8 ha2
  have hb := b_u8 ha3
  refine Ev.rounds ?_
  unfold shapesearchlaw24_DeviceKeeps.f
  have fin : Ev (fun k => shapesearchlaw24_DeviceKeeps.j0 k old now_ a2 a3 true) true := Ev.step (fun k => by rw [shapesearchlaw24_DeviceKeeps.j0]) (Ev.pos rfl (Ev.bind awake_is (Ev.now _)))
  by_cases c1 : old.length > 64
  · exact Ev.pos (by omega) fin
  refine Ev.neg (by omega) ?_
  by_cases c2 : now_.length > 64
  · rw [decide_eq_true (by omega)]
    exact fin
  rw [decide_eq_false (by omega)]
  refine Ev.step (fun k => by rw [shapesearchlaw24_DeviceKeeps.j0]) (Ev.neg (by decide) ?_)
  have hl3 : ∀ (a b c : List Int), [a, b, c].length = 3 := fun _ _ _ => rfl
  obtain ⟨z, hz⟩ : ∃ z, z = List.replicate 64 (0 : Int) := ⟨_, rfl⟩
  have hz64 : z.length = 64 := by rw [hz, List.length_replicate]
  have e0 := new_is 3 (by decide) (by decide)
  have d0 := DevOk.new 3 (by decide) (by decide)
  rw [show List.replicate 3 (List.replicate 64 (0 : Int)) = [z, z, z] by rw [hz]; rfl] at e0 d0
  have e1 := d0.write 1 (by decide) (by simp) old (by omega) (by simp)
  have d1 := d0.wrote 1 (by decide) (by simp) old (by simp)
  have e2 := d1.write 2 (by decide) (by simp) [a3] (by simp) (by simp)
  have d2 := d1.wrote 2 (by decide) (by simp) [a3] (by simp)
  have e3 := d2.flush
  have d3 := d2.carried (fun _ => 64) (fun _ => by decide)
  obtain ⟨o, ho⟩ : ∃ o, o = XD.padl old 64 := ⟨_, rfl⟩
  obtain ⟨u, hu⟩ : ∃ u, u = XD.padl [a3] 64 := ⟨_, rfl⟩
  obtain ⟨v, hv⟩ : ∃ v, v = XD.padl now_ 64 := ⟨_, rfl⟩
  have ho64 : o.length = 64 := by rw [ho]; exact XD.padl_len _ _
  have hu64 : u.length = 64 := by rw [hu]; exact XD.padl_len _ _
  have hv64 : v.length = 64 := by rw [hv]; exact XD.padl_len _ _
  rw [← ho] at e1 e2 e3 d1 d2 d3
  rw [← hu] at e2 e3 d2 d3
  have hfull : carr (fun _ => 64) (([] ++ [(⟨1, o⟩ : S42)]) ++ [(⟨2, u⟩ : S42)]) [z, z, z] 2 = [z, o, u] := by
    show ([z, z, z].set 1 (o.take 64 ++ z.drop 64)).set 2 (u.take 64 ++ List.drop 64 z) = [z, o, u]
    rw [List.take_of_length_le (by omega), List.take_of_length_le (by omega), List.drop_eq_nil_of_le (by omega), List.append_nil, List.append_nil]
    rfl
  rw [show ((([] : List S42) ++ [(⟨1, o⟩ : S42)]) ++ [(⟨2, u⟩ : S42)]).length = 2 from rfl, hfull] at e3 d3
  have e4 := d3.write 1 (by decide) (by simp) now_ (by omega) (by simp)
  have d4 := d3.wrote 1 (by decide) (by simp) now_ (by simp)
  rw [← hv] at e4 d4
  have e5 := d4.read 1 (by simp)
  have e6 := d4.crash [a2]
  have d6 := d4.carried (XD.keepAt [a2]) (keepAt_range [a2])
  have e7 := d4.crash [64]
  have e8 := d4.flush
  obtain ⟨n, hn⟩ : ∃ n, n = XD.keepAt [a2] 0 := ⟨_, rfl⟩
  have hn2 : n = min (max 0 a2) 64 := hn
  have hc6 : carr (XD.keepAt [a2]) ([] ++ [(⟨1, v⟩ : S42)]) [z, o, u] 1 = [z, v.take n.toNat ++ o.drop n.toNat, u] := by rw [hn]; rfl
  have hc7 : carr (XD.keepAt [64]) ([] ++ [(⟨1, v⟩ : S42)]) [z, o, u] 1 = [z, v.take 64 ++ o.drop 64, u] := rfl
  have hc8 : carr (fun _ => 64) ([] ++ [(⟨1, v⟩ : S42)]) [z, o, u] 1 = [z, v.take 64 ++ o.drop 64, u] := rfl
  rw [show (([] : List S42) ++ [(⟨1, v⟩ : S42)]).length = 1 from rfl] at e6 d6 e7 e8
  rw [hc6] at e6 d6
  rw [hc7] at e7
  rw [hc8] at e8
  have e9 := d6.read 1 (by simp)
  have e10 := d6.read 2 (by simp)
  have e11 := same_self [z, v.take 64 ++ o.drop 64, u] [] (by simp) (by simp)
  have hw : wrap64 a2 = a2 := w64 (by omega) (by omega)
  rw [hw]
  refine Ev.bind e0 (Ev.bind e1 (Ev.bind e2 (Ev.bind e3 (Ev.bind e4 (Ev.bind e5 (Ev.bind e6 (Ev.bind e7 (Ev.bind e8 (Ev.bind e9 (Ev.bind e10 ?_))))))))))
  refine Ev.pos rfl (Ev.pos rfl (Ev.pos rfl (Ev.pos rfl (Ev.pos rfl (Ev.pos rfl (Ev.pos rfl (Ev.pos rfl (Ev.pos rfl (Ev.pos rfl (Ev.pos rfl ?_))))))))))
  have hp64 : (v.take n.toNat ++ o.drop n.toNat).length = 64 := by rw [List.length_append, List.length_take, List.length_drop]; omega
  refine Ev.bind e11 (Ev.pos rfl ?_)
  have hrdu : rd u 0 = a3 := by
    have := rd_padl [a3] 64 0 (by decide)
    rw [← hu] at this
    exact this
  show Ev (fun k => if ((v.take n.toNat ++ o.drop n.toNat).length : Int) = 64 then (if (u.length : Int) = 64 then (if (v.length : Int) = 64 then (if 0 < (u.length : Int) then (if rd u 0 = a3 then shapesearchlaw24_DeviceKeeps.j1 k old now_ a2 v (v.take n.toNat ++ o.drop n.toNat) false else _) else _) else _) else _) else _) true
  refine Ev.pos (by omega) (Ev.pos (by omega) (Ev.pos (by omega) (Ev.pos (by omega) (Ev.pos hrdu ?_))))
  refine Ev.step (fun k => by rw [shapesearchlaw24_DeviceKeeps.j1]) (Ev.neg (by decide) ?_)
  refine dk_l0 old now_ a2 n v (v.take n.toNat ++ o.drop n.toNat) hv64 hp64 (by omega) (by omega) ha (fun b hb1 => by rw [hv]; exact rd_padl now_ 64 b hb1) (fun b hb1 => ?_) 64 0 (by omega)
  rw [rd_mix v o n.toNat b hv64 ho64 (by omega) hb1, hv, ho, rd_padl now_ 64 b hb1, rd_padl old 64 b hb1]
  by_cases c : (b : Int) < a2
  · rw [if_pos c, if_pos (by omega)]
  · rw [if_neg c, if_neg (by omega)]
end Go.Proofs.Ythpiafbloebpjaa.Pure
