/- This file proves that the device and its reference agree on every device, whole or not. -/
import Derived.Test.YthpiafbloebpjaaXRaw
import Derived.Test.YthpiafbloebpjaaBase
import Derived.Deep.Slices
set_option linter.unusedVariables false
namespace Go.Proofs.Ythpiafbloebpjaa.PDeviceSteps
open Go.RowKit Go.Proofs.YthpiafbloebpjaaW.PrintWords Go.Proofs.YthpiafbloebpjaaW.PrintLast Go.Proofs.YthpiafbloebpjaaW.PrintMore Go.Proofs.Ythpiafbloebpjaa.Base
theorem rnew_l0 (n : Nat) (hn : n ≤ 256) (d : Nat) : ∀ i : Nat, i + d = n → Ev (fun k => shapesearchref24_New.l0 k (n : Int) (i : Int) (List.replicate i (List.replicate 64 0))) (List.replicate n (List.replicate 64 0), [], 0) := by
  induction d with
  | zero =>
    intro i hi
    obtain rfl : i = n := by omega
    exact Ev.step (fun k => by rw [shapesearchref24_New.l0]) (Ev.neg (by omega) (Ev.now _))
  | succ d ih =>
    intro i hi
    refine Ev.step (fun k => by rw [shapesearchref24_New.l0]) (Ev.pos (by omega) (Ev.pos (by decide) (Ev.pos (by rw [List.length_replicate]; omega) ?_)))
    have e := ih (i + 1) (by omega)
    rw [List.replicate_succ'] at e
    rw [dw_succ (by omega)]
    exact e
/-- What New answers for any number of pages. -/
def newV (a : Int) : List (List Int) × List S42 × Int := if a < 1 ∨ a > 256 then ([], [], 4) else (List.replicate a.toNat (List.replicate 64 0), [], 0)
theorem newV_bad {a : Int} (h : a < 1 ∨ a > 256) : newV a = ([], [], 4) := by unfold newV; rw [if_pos h]
theorem newV_good (n : Nat) (h1 : 1 ≤ n) (h2 : n ≤ 256) : newV (n : Int) = (List.replicate n (List.replicate 64 0), [], 0) := by
  unfold newV
  rw [if_neg (by omega), Int.toNat_natCast]
theorem dnew_ev (a : Int) : Ev (fun k => device_New.f k a) (newV a) := by
  by_cases c1 : a < 1
  · rw [newV_bad (Or.inl c1)]
    unfold device_New.f
    exact Ev.pos c1 (Ev.step (fun k => by rw [device_New.j0]) (Ev.pos rfl (Ev.now _)))
  by_cases c2 : a > 256
  · rw [newV_bad (Or.inr c2)]
    unfold device_New.f
    refine Ev.neg c1 ?_
    rw [decide_eq_true c2]
    exact Ev.step (fun k => by rw [device_New.j0]) (Ev.pos rfl (Ev.now _))
  obtain ⟨n, rfl⟩ : ∃ n : Nat, a = (n : Int) := ⟨a.toNat, by omega⟩
  rw [newV_good n (by omega) (by omega)]
  exact new_is n (by omega) (by omega)
theorem rnew_ev (a : Int) : Ev (fun k => shapesearchref24_New.f k a) (newV a) := by
  by_cases c1 : a < 1
  · rw [newV_bad (Or.inl c1)]
    unfold shapesearchref24_New.f
    exact Ev.pos c1 (Ev.step (fun k => by rw [shapesearchref24_New.j0]) (Ev.pos rfl (Ev.now _)))
  by_cases c2 : a > 256
  · rw [newV_bad (Or.inr c2)]
    unfold shapesearchref24_New.f
    refine Ev.neg c1 ?_
    rw [decide_eq_true c2]
    exact Ev.step (fun k => by rw [shapesearchref24_New.j0]) (Ev.pos rfl (Ev.now _))
  obtain ⟨n, rfl⟩ : ∃ n : Nat, a = (n : Int) := ⟨a.toNat, by omega⟩
  rw [newV_good n (by omega) (by omega)]
  unfold shapesearchref24_New.f
  refine Ev.neg (by omega) ?_
  rw [decide_eq_false (by omega)]
  refine Ev.step (fun k => by rw [shapesearchref24_New.j0]) (Ev.neg (by decide) ?_)
  exact rnew_l0 n (by omega) n 0 (by omega)
theorem newV_len (a : Int) : (newV a).1.length ≤ 256 ∧ (newV a).2.1.length = 0 := by
  unfold newV
  split
  · exact ⟨by decide, rfl⟩
  · exact ⟨by rw [List.length_replicate]; omega, rfl⟩
theorem agree_is {P : List (List Int)} {Q : List S42} (h : Fit2 P Q) (page : Int) (b keep : List Int) : Ev (fun k => zAgree.f k P Q page b keep) true := by
  unfold zAgree.f
  rw [if_pos h]
  exact Ev.now _
theorem fin_is : Ev (fun k => (shapesearchlaw24_awake.f k).bind fun t => some t) true := Ev.bind awake_is (Ev.now _)
theorem raw_l0 {P : List (List Int)} {Q : List S42} (h : Fit2 P Q) (a1 : Int) (b keep : List Int) (a4 : Int) (d : Nat) :
    ∀ (i : Nat) (x : Int), i + d = P.length → Ev (fun k => shapesearchlaw24_DeviceRaw.l0 k a1 b keep a4 x (i : Int) P Q) true := by
  have hp := h.1
  induction d with
  | zero =>
    intro i x hi
    refine Ev.step (fun k => by rw [shapesearchlaw24_DeviceRaw.l0]) (Ev.neg (by omega) ?_)
    by_cases c : x > 1500
    · exact Ev.pos c fin_is
    · obtain ⟨n1, n2⟩ := newV_len a4
      exact Ev.neg c (Ev.bind (dnew_ev a4) (Ev.bind (rnew_ev a4) (Ev.pos rfl (Ev.bind (same_self _ _ (by omega) (by omega)) (Ev.pos rfl (Ev.bind (agree_is h _ _ _) (Ev.pos rfl fin_is)))))))
  | succ d ih =>
    intro i x hi
    refine Ev.step (fun k => by rw [shapesearchlaw24_DeviceRaw.l0]) (Ev.pos (by omega) (Ev.pos (by omega) ?_))
    have e := ih (i + 1) (wrap64 (x + (wrap64 (((rd_L1 P (i : Int)).length : Int) / 16)))) (by omega)
    rw [dw_succ (by omega)]
    exact e
theorem raw_is {P : List (List Int)} {Q : List S42} (h : Fit2 P Q) (a1 : Int) (b keep : List Int) (a4 : Int) : Ev (fun k => shapesearchlaw24_DeviceRaw.f k P Q a1 b keep a4) true := by
  unfold shapesearchlaw24_DeviceRaw.f
  exact raw_l0 h a1 b keep a4 P.length 0 _ (by omega)
theorem raw_calls (A0 : Option Addr) (c0 : Nat) (P : List (List Int)) (A1 : Option Addr) (c1 : Nat) (Q : List S42) (a1 : Int) (A2 : Option Addr) (c2 : Nat) (b : List Int) (A3 : Option Addr) (c3 : Nat) (keep : List Int) (a4 : Int) (w : World)
    (hp : Kd.C (Kd.slice 5 (Kd.int .u8)) w A0 P.length P) (cp : P.length ≤ c0) (hq : Kd.C k42 w A1 Q.length Q) (cq : Q.length ≤ c1) (hb : Kd.C (Kd.int .u8) w A2 b.length b) (cb : b.length ≤ c2) (hk : Kd.C (Kd.int .i64) w A3 keep.length keep) (ck : keep.length ≤ c3) (hf : Fit2 P Q) :
    Calls Try.prog 3 #[.agg #[.slice A0 P.length c0, .slice A1 Q.length c1], .int .i64 a1, .slice A2 b.length c2, .slice A3 keep.length c3, .int .i64 a4] w fun e w' => e = .returned (.bool true) ∧ Below w.heap.size w w' := by
  obtain ⟨k, h⟩ := raw_is hf a1 b keep a4
  exact shapesearchlaw24_DeviceRaw.calls k A0 c0 P A1 c1 Q a1 A2 c2 b A3 c3 keep a4 true w hp cp hq cq hb cb hk ck (h k (Nat.le_refl _)) rfl
/-! ### what the law's argument reads -/
theorem pages_C {W : World} {A0 : Option Addr} {len cap : Nat} (h : (A0 = none ∧ len = 0 ∧ cap = 0) ∨ ∃ a, A0 = some a ∧ len ≤ cap ∧ cap ≤ maxLen ∧ ∀ r, r < len → ∃ y : Option Addr × List Int × Nat, W.cell? (a.add r) = some (.slice y.1 y.2.1.length y.2.2) ∧ y.2.1.length ≤ y.2.2 ∧ Kd.C (Kd.int .u8) W y.1 y.2.1.length y.2.1 ∧ y.2.1.length ≤ 140737488351232) :
    ∃ P : List (List Int), len = P.length ∧ Kd.C (Kd.slice 5 (Kd.int .u8)) W A0 P.length P ∧ P.length ≤ cap ∧ ∀ p ∈ P, p.length ≤ 140737488351232 := by
  rcases h with ⟨rfl, rfl, rfl⟩ | ⟨a, rfl, hl, hm, hx⟩
  · exact ⟨[], rfl, ⟨rfl, by simp, fun h => absurd h (by simp)⟩, Nat.le_refl _, by simp⟩
  · haveI : Inhabited (Option Addr × List Int × Nat) := ⟨(none, [], 0)⟩
    obtain ⟨y, hy⟩ := Go.Deep.choose_lt hx
    refine ⟨(List.range len).map (fun r => (y r).2.1), by simp, ⟨rfl, by rw [List.length_map, List.length_range]; exact Nat.le_trans hl hm, fun _ => ⟨a, rfl, fun j p hj => ?_⟩⟩, by simpa using hl, fun p hp => ?_⟩
    · rw [List.getElem?_map] at hj
      obtain ⟨i, hi, rfl⟩ := Option.map_eq_some_iff.1 hj
      obtain ⟨hlt, e⟩ := List.getElem?_eq_some_iff.1 hi
      rw [List.length_range] at hlt
      rw [List.getElem_range] at e
      subst e
      obtain ⟨h1, h2, h3, h4⟩ := hy j hlt
      refine ⟨[.slice (y j).1 (y j).2.1.length (y j).2.2], rfl, ⟨(y j).1, (y j).2.2, rfl, h2, h3⟩, fun q v hq => ?_⟩
      cases q with
      | zero =>
        injection hq with hq
        subst hq
        rw [show (Kd.slice 5 (Kd.int .u8)).sz = 1 from rfl, Nat.mul_one, Nat.add_zero]
        exact h1
      | succ q => cases hq
    · obtain ⟨i, hi, rfl⟩ := List.mem_map.1 hp
      exact (hy i (List.mem_range.1 hi)).2.2.2
theorem pend_C {W : World} {A0 : Option Addr} {len cap : Nat} (h : (A0 = none ∧ len = 0 ∧ cap = 0) ∨ ∃ a, A0 = some a ∧ len ≤ cap ∧ cap ≤ maxLen ∧ ∀ r, r < len → ∃ y : Int × Option Addr × List Int × Nat, W.cell? (a.add (r * 2)) = some (.int .i64 y.1) ∧ W.cell? (a.add (r * 2 + 1)) = some (.slice y.2.1 y.2.2.1.length y.2.2.2) ∧ y.2.2.1.length ≤ y.2.2.2 ∧ Kd.C (Kd.int .u8) W y.2.1 y.2.2.1.length y.2.2.1 ∧ y.2.2.1.length ≤ 140737488351232) :
    ∃ Q : List S42, len = Q.length ∧ Kd.C k42 W A0 Q.length Q ∧ Q.length ≤ cap ∧ ∀ q ∈ Q, q.f1.length ≤ 140737488351232 := by
  rcases h with ⟨rfl, rfl, rfl⟩ | ⟨a, rfl, hl, hm, hx⟩
  · exact ⟨[], rfl, ⟨rfl, by simp, fun h => absurd h (by simp)⟩, Nat.le_refl _, by simp⟩
  · haveI : Inhabited (Int × Option Addr × List Int × Nat) := ⟨(0, none, [], 0)⟩
    obtain ⟨y, hy⟩ := Go.Deep.choose_lt hx
    refine ⟨(List.range len).map (fun r => (⟨(y r).1, (y r).2.2.1⟩ : S42)), by simp, ⟨rfl, by rw [List.length_map, List.length_range]; exact Nat.le_trans hl hm, fun _ => ⟨a, rfl, fun j p hj => ?_⟩⟩, by simpa using hl, fun p hp => ?_⟩
    · rw [List.getElem?_map] at hj
      obtain ⟨i, hi, rfl⟩ := Option.map_eq_some_iff.1 hj
      obtain ⟨hlt, e⟩ := List.getElem?_eq_some_iff.1 hi
      rw [List.length_range] at hlt
      rw [List.getElem_range] at e
      subst e
      obtain ⟨h1, h2, h3, h4, h5⟩ := hy j hlt
      refine ⟨_, rfl, k42_mk W (⟨(y j).1, (y j).2.2.1⟩ : S42) h3 h4, fun q v hq => ?_⟩
      match q with
      | 0 =>
        injection hq with hq
        subst hq
        exact h1
      | 1 =>
        injection hq with hq
        subst hq
        exact h2
      | q + 2 => cases hq
    · obtain ⟨i, hi, rfl⟩ := List.mem_map.1 hp
      exact (hy i (List.mem_range.1 hi)).2.2.2.2
end Go.Proofs.Ythpiafbloebpjaa.PDeviceSteps
