/- This file proves what one copy into a page leaves, and what the closures of device.Flush and device.Crash answer. -/
import Derived.Test.YthpiafbloebpjaaXDev
set_option linter.unusedVariables false
set_option linter.unusedSimpArgs false
namespace Go.Proofs.Ythpiafbloebpjaa.XD
open Go Go.RowKit Go.Proofs.YthpiafbloebpjaaW.PrintWords Go.Proofs.YthpiafbloebpjaaW.PrintLast Go.Proofs.YthpiafbloebpjaaW.PrintMore

theorem copy8_step {P : Program} {ops : Array Oper} {o : Oper} {a : Act} {W : World} {K : Act → World → Prop} {Q : Exit → Act → World → Prop} {E : Prop} (hgd : o.guard = none) (d s : Operand) (dT sT el : TypeId)
    (ho : o.op = .call { callee := .builtin .copy, args := #[d, s], argTypes := #[dT, sT] }) (hu : P.underlying dT = some (.slice el)) (hsz : (P.info? el).map (·.size) = some 1)
    (base : Nat) (ok : Nat → Prop) (v : Value) (xs ys : List Int) (A : Option Addr) (m c : Nat) (hd : a.eval d = v) (hs : a.eval s = .slice A m c)
    (HO : Kd.R (Kd.int .u8) el W base ok v xs) (HR : Kd.C (Kd.int .u8) W A m ys) (hm : m ≤ xs.length)
    (h : ∀ w1, Kd.R (Kd.int .u8) el w1 base ok v (ys ++ xs.drop m) → W.grownBy w1 v.ownBlock → K (a.put o.dst (goInt m)) w1) :
    if Region.wanted o (yielded ops a.tmps) = true then Oper.wp P o a W K Q else E := by
  have hw : Region.wanted o (yielded ops a.tmps) = true := by simp [Region.wanted, hgd]
  rw [if_pos hw]
  have hyl : ys.length = m := HR.1
  have hown := Kd.own_of_R HO
  rcases Nat.eq_zero_or_pos m with h0 | hp
  · obtain ⟨A', c', hv⟩ := own_slice hown
    have hrun := run_copy_none (P := P) W dT sT o.type el A' A xs.length c' m c hu hsz (by rw [h0]; exact Nat.zero_min _)
    unfold Oper.wp
    simp only [execOp, ho, resolve, invoke, builtin, Sem.run_bind, Sem.run_pure, List.map_toArray, List.map_cons, List.map_nil, hd, hs, hv, hrun, Result.andThen]
    have hy0 : ys = [] := List.eq_nil_of_length_eq_zero (by omega)
    have := h W (by rw [hy0, h0, List.drop_zero, List.nil_append]; exact HO) (World.grownBy.refl W _)
    rw [h0] at this
    exact this
  · obtain ⟨ad, hA, hc⟩ := HR.2.2 hp
    rcases hown.2 with ⟨_, hx0⟩ | ⟨g, cap, cur, hv, hb, hh, hnc, hcm, hcs, htake⟩
    · omega
    have hcs1 : cur.size = cap := by omega
    have hsrc : ∀ j u, (nums .u8 ys)[j]? = some u → W.cell? (ad.add j) = some u := by
      intro j u hu
      unfold nums at hu
      rw [List.getElem?_map] at hu
      obtain ⟨y, hy, rfl⟩ := Option.map_eq_some_iff.1 hu
      obtain ⟨cs, hl, hk, hcell⟩ := hc j y hy
      have e1 : cs = [.int .u8 y] := hk
      rw [show j = j * (Kd.int .u8).sz + 0 by show j = j * 1 + 0; omega]
      exact hcell 0 _ (by rw [e1]; rfl)
    have hnl : (nums .u8 ys).length = m := by unfold nums; rw [List.length_map, hyl]
    have hrun := run_copy_row (P := P) W dT sT o.type el g 0 xs.length cap ad m c cur el (nums .u8 ys) hu hsz hh (by rw [hnl]; exact (Nat.min_eq_left hm).symm) hsrc (by rw [hnl]; omega) (nums_one .u8 ys)
    have hv' : (Value.slice (some ⟨g, 0, none⟩) xs.length cap) = v := hv.symm
    unfold Oper.wp
    simp only [execOp, ho, resolve, invoke, builtin, Sem.run_bind, Sem.run_pure, List.map_toArray, List.map_cons, List.map_nil, hd, hs, hv, hA, hrun, Result.andThen]
    have key := h (W.setRow g (cur.toList.take 0 ++ nums .u8 ys ++ cur.toList.drop (0 + (nums .u8 ys).length)).toArray) ?_ ?_
    · rw [hnl] at key ⊢
      exact key
    · have hln : (ys ++ xs.drop m).length = xs.length := by
        rw [List.length_append, List.length_drop]
        omega
      refine Kd.R_of_own (e := el) ?_ HO.1
      rw [hln]
      have htk : cur.toList.take xs.length = nums .u8 xs := by rw [← Nat.mul_one xs.length]; exact htake
      refine ⟨by simp [encs, List.length_drop]; omega, .inr ⟨g, cap, _, hv, hb, setRow_heap W g cur _ el (0, 0) hh, hnc, hcm, by simp [nums]; omega, ?_⟩⟩
      rw [Nat.mul_one, List.take_zero, List.nil_append, hnl, Nat.zero_add]
      show List.take xs.length (nums .u8 ys ++ List.drop m cur.toList) = nums .u8 (ys ++ xs.drop m)
      rw [List.take_append, hnl, List.take_of_length_le (by omega), ← List.drop_take, htk]
      unfold nums
      rw [List.map_append, List.map_drop]
    · exact ⟨rfl, rfl, rfl, by simp [World.setRow], fun k _ hk => setRow_other W g k _ (fun he => hk (by rw [hv, he]; simp [Value.ownBlock]))⟩
set_option maxHeartbeats 4000000 in
set_option maxRecDepth 1000000 in
theorem flush1_calls (i : Int) (w : World) : Calls Try.prog 26 #[.int .i64 i] w fun e w' => e = .returned (.int .i64 64) ∧ w' = w := by
  go_enter Try.func26, Try.ntmps26
  go_wp2_with fail
  go_ret
  exact ⟨rfl, rfl⟩
/-- So many bytes of a pending write a crash keeps. -/
def keepAt (keep : List Int) (i : Nat) : Int := if (i : Int) < (keep.length : Int) then min (max 0 (rd keep (i : Int))) 64 else 0
set_option maxHeartbeats 4000000 in
set_option maxRecDepth 1000000 in
theorem crash1_calls (g : Nat) (A0 : Option Addr) (c0 : Nat) (keep : List Int) (i : Nat) (w : World) (hcell : w.heap[g]? = some (.cells #[.slice A0 keep.length c0] 27 (0, 0))) (hr : Kd.C (Kd.int .i64) w A0 keep.length keep) :
    Calls Try.prog 27 #[.int .i64 (i : Int), .pointer (some ⟨g, 0, none⟩)] w fun e w' => e = .returned (.int .i64 (keepAt keep i)) ∧ w' = w := by
  have hc : w.cell? ⟨g, 0, none⟩ = some (.slice A0 keep.length c0) := (blk_cell hcell 0).trans rfl
  by_cases hlt : (i : Int) < (keep.length : Int)
  · obtain ⟨ad, e, hx⟩ := Kd.at_int hr (i : Int) (by omega) hlt
    cases e
    rw [Int.toNat_natCast] at hx
    have hv : keepAt keep i = min (max 0 (rd keep (i : Int))) 64 := if_pos hlt
    obtain ⟨q, hq⟩ : ∃ q, q = rd keep (i : Int) := ⟨_, rfl⟩
    rw [← hq] at hx hv
    have h0 : (0 : Int) ≤ (i : Int) := by omega
    obtain ⟨r, hr_⟩ : ∃ r, r = keepAt keep i := ⟨_, rfl⟩
    rw [← hr_] at hv ⊢
    clear hr_ hq hr
    have HV := Aside0.mk hv
    clear hv
    go_enter Try.func27, Try.ntmps27
    go_wp2_with fail
    all_goals (go_ret; refine ⟨?_, rfl⟩; rw [HV.out]; show Ending.returned (Value.int .i64 _) = _; congr 2; rename_i h2; first | omega | (split at h2 <;> omega))
  · have hv : keepAt keep i = 0 := if_neg hlt
    have h0 : decide ((i : Int) < (keep.length : Int)) = false := decide_eq_false hlt
    rw [hv]
    go_enter Try.func27, Try.ntmps27
    go_wp2_with fail
    go_ret
    exact ⟨rfl, rfl⟩
end Go.Proofs.Ythpiafbloebpjaa.XD
