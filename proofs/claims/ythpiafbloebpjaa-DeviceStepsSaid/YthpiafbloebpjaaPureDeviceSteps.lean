/- This file proves that a device and its reference agree behind every list of steps, and behind a device that was spoilt. -/
import Derived.Test.YthpiafbloebpjaaPDeviceStepsx10
import Derived.Test.YthpiafbloebpjaaBase
set_option linter.unusedVariables false
namespace Go.Proofs.Ythpiafbloebpjaa.Pure
open Go.RowKit Go.Proofs.Ythpiafbloebpjaa.PDeviceSteps Go.Proofs.YthpiafbloebpjaaW.PrintWords Go.Proofs.YthpiafbloebpjaaW.PrintLast Go.Proofs.YthpiafbloebpjaaW.PrintMore Go.Proofs.Ythpiafbloebpjaa.Base
theorem rnew_l0 (n : Nat) (hn : n ≤ 256) (d : Nat) : ∀ i : Nat, i + d = n → Ev (fun k => shapesearchref24_New.l0 k (n : Int) (i : Int) (List.replicate i (List.replicate 64 0))) (List.replicate n (List.replicate 64 0), [], 0) := by
  induction d with
  | zero =>
    intro i hi
    obtain rfl : i = n := by omega
    exact Ev.step (fun k => by rw [shapesearchref24_New.l0]) (Ev.neg (by omega) (Ev.now _))
  | succ d ih =>
    intro i hi
    refine Ev.step (fun k => by rw [shapesearchref24_New.l0]) (Ev.pos (by omega) (Ev.pos (by decide) (Ev.pos (by rw [List.length_replicate]; omega) ?_)))
    have e := ih (i + 1) (by omega)
    rw [List.replicate_succ'] at e
    rw [dw_succ (by omega)]
    exact e
theorem rnew_is (n : Nat) (h1 : 1 ≤ n) (h2 : n ≤ 256) : Ev (fun k => shapesearchref24_New.f k (n : Int)) (List.replicate n (List.replicate 64 0), [], 0) := by
  unfold shapesearchref24_New.f
  refine Ev.neg (by omega) ?_
  rw [decide_eq_false (by omega)]
  refine Ev.step (fun k => by rw [shapesearchref24_New.j0]) (Ev.neg (by decide) ?_)
  exact rnew_l0 n h2 n 0 (by omega)
theorem agree_is {P : List (List Int)} {Q : List S42} (h : Fit2 P Q) (page : Int) (b keep : List Int) : Ev (fun k => zAgree.f k P Q page b keep) true := by
  unfold zAgree.f
  rw [if_pos h]
  exact Ev.now _
theorem crashV_ok {P : List (List Int)} {Q : List S42} (h : DevOk P Q) (n : Nat → Int) (hn : ∀ i, 0 ≤ n i ∧ n i ≤ 64) : DevOk (crashV n P Q).1 (crashV n P Q).2.1 ∧ (crashV n P Q).1.length = P.length := by
  unfold crashV
  rw [if_pos h.validB]
  exact ⟨h.carried n hn, carr_len n Q P _⟩
theorem writeV_ok {P : List (List Int)} {Q : List S42} (h : DevOk P Q) (page : Int) (b : List Int) : DevOk (writeV P Q page b).1 (writeV P Q page b).2.1 ∧ (writeV P Q page b).1.length = P.length := by
  have hf := h.few
  unfold writeV
  rw [if_pos h.validB]
  by_cases c1 : page < 0 ∨ (P.length : Int) ≤ page
  · rw [if_pos c1]
    exact ⟨h, rfl⟩
  rw [if_neg c1]
  by_cases c2 : 64 < b.length
  · rw [if_pos c2]
    exact ⟨h, rfl⟩
  rw [if_neg c2]
  by_cases c3 : Q.length = 300
  · rw [if_pos c3]
    exact ⟨h, rfl⟩
  rw [if_neg c3]
  exact ⟨h.wrote page (by omega) (by omega) b (by omega), rfl⟩
theorem fin_is : Ev (fun k => (shapesearchlaw24_awake.f k).bind fun t => some t) true := Ev.bind awake_is (Ev.now _)
theorem set_fit {P : List (List Int)} {Q : List S42} (h : Fit2 P Q) (pg : Int) : Fit2 P (Q.set 0 ⟨pg, (rd_T42 Q 0).f1⟩) := by
  refine ⟨h.1, by rw [List.length_set]; exact h.2.1, h.2.2.1, fun q hq => ?_⟩
  cases Q with
  | nil => cases hq
  | cons q0 Q =>
    rw [List.set_cons_zero] at hq
    rcases List.mem_cons.1 hq with rfl | hq
    · exact h.2.2.2 q0 (List.mem_cons_self ..)
    · exact h.2.2.2 q (List.mem_cons_of_mem _ hq)
theorem cut_fit {P : List (List Int)} {Q : List S42} (h : Fit2 P Q) (m : Nat) (hm : m ≤ 64) : Fit2 (P.set 1 ((rd_L1 P 1).take m)) Q := by
  refine ⟨by rw [List.length_set]; exact h.1, h.2.1, fun p hp => ?_, h.2.2.2⟩
  rcases List.mem_or_eq_of_mem_set hp with hp | rfl
  · exact h.2.2.1 p hp
  · rw [List.length_take]
    omega
theorem ds_j2 (a1 : Int) (ha : 0 ≤ a1 ∧ a1 ≤ 255) {P : List (List Int)} {Q : List S42} (h : DevOk P Q) (h4 : P.length = 4) (c : Bool) (hc : c = true → 0 < Q.length ∧ 200 < a1) : Ev (fun k => shapesearchlaw24_DeviceSteps.j2 k a1 c P Q) true := by
  refine Ev.step (fun k => by rw [shapesearchlaw24_DeviceSteps.j2]) ?_
  cases c with
  | true =>
    obtain ⟨c1, c2⟩ := hc rfl
    exact Ev.pos rfl (Ev.pos (by omega) (Ev.bind (agree_is (set_fit h.fit2 _) _ _ _) (Ev.pos rfl fin_is)))
  | false =>
    refine Ev.neg (by decide) ?_
    by_cases c1 : a1 > 150
    · have e : wrap64 (wrap64 a1 - 151) = a1 - 151 := by rw [w64 (n := a1) (by omega) (by omega), w64 (by omega) (by omega)]
      rw [e]
      have l1 : (rd_L1 P 1).length = 64 := by
        rw [show (1 : Int) = ((1 : Nat) : Int) from rfl, L1_nat P 1 (by omega)]
        exact h.pages _ (List.getElem_mem _)
      have m1 : 0 ≤ mn (a1 - 151) 64 := by unfold mn; split <;> omega
      have m2 : mn (a1 - 151) 64 ≤ 64 := by unfold mn; split <;> omega
      exact Ev.pos c1 (Ev.pos (by omega) (Ev.pos m1 (Ev.pos (by omega) (Ev.bind (agree_is (cut_fit h.fit2 _ (by omega)) _ _ _) (Ev.pos rfl fin_is)))))
    · exact Ev.neg c1 (Ev.bind (agree_is h.fit2 _ _ _) (Ev.pos rfl fin_is))
theorem ds_l1 (l0 : List Int) (a1 : Int) (i : Nat) (hi : i < l0.length) (hl : l0.length ≤ 40) (page : Int) (n : Nat) (hn : n ≤ 66) {P : List (List Int)} {Q : List S42} (h : DevOk P Q) (h4 : P.length = 4)
    (ih : ∀ P' Q', DevOk P' Q' → P'.length = 4 → Ev (fun k => shapesearchlaw24_DeviceSteps.l0 k l0 a1 ((i + 1 : Nat) : Int) P' Q') true) (d : Nat) :
    ∀ (j : Nat) (b : List Int), b.length = n → j + d = n → Ev (fun k => shapesearchlaw24_DeviceSteps.l1 k l0 a1 (i : Int) page b (j : Int) P Q) true := by
  induction d with
  | zero =>
    intro j b hb hj
    refine Ev.step (fun k => by rw [shapesearchlaw24_DeviceSteps.l1]) (Ev.neg (by omega) (Ev.pos (by omega) (Ev.pos (by omega) ?_)))
    simp only [Option.bind_some]
    rw [dw_succ (by omega)]
    refine Ev.bind (agree_is h.fit2 _ _ _) (Ev.pos rfl ?_)
    by_cases c0 : Int.tmod (rd l0 (i : Int)) 8 = 0
    · refine Ev.pos c0 (Ev.bind (a := crashV (fun _ => 64) P Q) ?_ ?_)
      · unfold zFlush.f
        rw [if_pos h.fit2]
        exact Ev.now _
      · have := crashV_ok h (fun _ => 64) (fun _ => by decide)
        exact ih _ _ this.1 (this.2.trans h4)
    refine Ev.neg c0 ?_
    by_cases c1 : Int.tmod (rd l0 (i : Int)) 8 = 1
    · have hz : ∀ keep : List Int, Ev (fun k => zCrash.f k P Q keep) (crashV (XD.keepAt keep) P Q) := fun keep => by
        unfold zCrash.f
        rw [if_pos h.fit2]
        exact Ev.now _
      have hy : ∀ keep : List Int, Ev (fun k => shapesearchlaw24_DeviceSteps.l0 k l0 a1 ((i + 1 : Nat) : Int) (crashV (XD.keepAt keep) P Q).1 (crashV (XD.keepAt keep) P Q).2.1) true := fun keep => by
        have := crashV_ok h (XD.keepAt keep) (keepAt_range keep)
        exact ih _ _ this.1 (this.2.trans h4)
      exact Ev.pos c1 (Ev.bind (hz _) (hy _))
    refine Ev.neg c1 (Ev.bind (a := writeV P Q page b) ?_ ?_)
    · unfold zWrite.f
      rw [if_pos h.fit2]
      exact Ev.now _
    · have := writeV_ok h page b
      exact ih _ _ this.1 (this.2.trans h4)
  | succ d ihd =>
    intro j b hb hj
    refine Ev.step (fun k => by rw [shapesearchlaw24_DeviceSteps.l1]) (Ev.pos (by omega) (Ev.pos (by omega) ?_))
    have e := ihd (j + 1) (b.set ((j : Int)).toNat ((wrap64 ((i : Int) + 1)) % 256)) (by rw [List.length_set]; exact hb) (by omega)
    rw [dw_succ (i := j) (by omega)]
    exact e
theorem ds_l0 (l0 : List Int) (a1 : Int) (ha : 0 ≤ a1 ∧ a1 ≤ 255) (hx : ∀ i : Nat, 0 ≤ rd l0 (i : Int) ∧ rd l0 (i : Int) < 65536) (hl : l0.length ≤ 40) (d : Nat) :
    ∀ (i : Nat) (P : List (List Int)) (Q : List S42), DevOk P Q → P.length = 4 → i + d = l0.length → Ev (fun k => shapesearchlaw24_DeviceSteps.l0 k l0 a1 (i : Int) P Q) true := by
  induction d with
  | zero =>
    intro i P Q h h4 hi
    refine Ev.step (fun k => by rw [shapesearchlaw24_DeviceSteps.l0]) (Ev.neg (by omega) ?_)
    by_cases c : a1 > 200
    · exact Ev.pos c (ds_j2 a1 ha h h4 _ (fun hd => ⟨by have := of_decide_eq_true hd; omega, c⟩))
    · exact Ev.neg c (ds_j2 a1 ha h h4 _ (fun hd => by cases hd))
  | succ d ih =>
    intro i P Q h h4 hi
    obtain ⟨x0, x1⟩ := hx i
    have e1 : wrap64 (rd l0 (i : Int) / 32) = rd l0 (i : Int) / 32 := w64 (by omega) (by omega)
    have p1 : 0 ≤ Int.tmod (rd l0 (i : Int) / 32) 66 := Int.tmod_nonneg _ (by omega)
    have p2 : Int.tmod (rd l0 (i : Int) / 32) 66 < 66 := Int.tmod_lt_of_pos _ (by decide)
    refine Ev.step (fun k => by rw [shapesearchlaw24_DeviceSteps.l0]) ?_
    rw [e1]
    generalize Int.tmod (rd l0 (i : Int) / 32) 66 = n at p1 p2 ⊢
    refine Ev.pos (by omega) (Ev.pos (by omega) (Ev.pos p1 (Ev.pos (by omega) ?_)))
    exact ds_l1 l0 a1 i (by omega) hl _ n.toNat (by omega) h h4 (fun P' Q' h' h4' => ih (i + 1) P' Q' h' h4' (by omega)) n.toNat 0 _ (by rw [List.length_replicate]) (by omega)
theorem DeviceSteps : shapesearchlaw24_DeviceSteps.Pure := by
  intro l0 a1 _ _ hw ha
  have ha' := b_u8 ha
  refine Ev.rounds ?_
  unfold shapesearchlaw24_DeviceSteps.f
  by_cases c : (l0.length : Int) > 40
  · exact Ev.pos c fin_is
  · refine Ev.neg c (Ev.bind (rnew_is 4 (by decide) (by decide)) ?_)
    refine ds_l0 l0 a1 ha' (fun i => ?_) (by omega) l0.length 0 _ _ (DevOk.new 4 (by decide) (by decide)) (by rw [List.length_replicate]) (by omega)
    by_cases hi : i < l0.length
    · rw [rd_nat l0 i hi]
      have := hw _ (List.getElem_mem hi)
      simp [Lit.wf, IntKind.min, IntKind.max, IntKind.signed, IntKind.bits] at this
      omega
    · have : rd l0 (i : Int) = 0 := by
        unfold rd
        rw [Int.toNat_natCast, List.getD_eq_getElem?_getD, List.getElem?_eq_none (by omega)]
        rfl
      omega
end Go.Proofs.Ythpiafbloebpjaa.Pure
