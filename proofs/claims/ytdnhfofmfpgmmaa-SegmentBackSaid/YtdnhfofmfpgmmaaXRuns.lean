/- This file proves what the iterator series.runs hands to its loop's body: the runs of values, in order. -/
import Derived.Test.YtdnhfofmfpgmmaaXWords
import Derived.Test.YtdnhfofmfpgmmaaProg
import Derived.RangeFuncNested
import Derived.RangeFuncBound
import Derived.RangeFuncCalls
import Derived.RangeFuncLeaves
import Derived.Shelf.Abstract
import Derived.Shelf.RegionOpen
import Derived.WalkKit
import Derived.OwnWalkIn
import Derived.TacticsInMore
import Derived.LoopNIn
import Derived.LoopIn
import Derived.Maps.AppendAt
import Derived.Outline
set_option linter.unusedVariables false
set_option linter.unusedSimpArgs false
namespace Go.Proofs.Ytdnhfofmfpgmmaa.X
open Go.RowKit Go.Shelf Go.Proofs.YtdnhfofmfpgmmaaW.PrintWords Go.Proofs.YtdnhfofmfpgmmaaW.PrintLast Go.Proofs.YtdnhfofmfpgmmaaW.PrintMore

attribute [local go_sem] Oper.semAt_some
/-- A run: its first index and its length, far from all bounds. -/
abbrev RunP := { x : Nat × Nat // x.1 + x.2 ≤ 100000 }
def mkR (a b : Nat) : RunP := if h : a + b ≤ 100000 then ⟨(a, b), h⟩ else ⟨(0, 0), by decide⟩
theorem mkR_is {a b : Nat} (h : a + b ≤ 100000) : (mkR a b).1 = (a, b) := by unfold mkR; rw [dif_pos h]
/-- The runs of a list from an index on, the last one begun at fr. -/
def runsG (l : List Int) : Nat → Nat → Nat → List RunP
  | 0, _, _ => []
  | d + 1, i, fr => if i < l.length ∧ l.getD i 0 ≠ 1073741824 then runsG l d (i + 1) fr else (if fr < i then [mkR fr (i - fr)] else []) ++ runsG l d (i + 1) (i + 1)
def encRun (x : RunP) : Value := .agg #[.int .i64 (x.1.1 : Int), .int .i64 (x.1.2 : Int)]
theorem encRun_is {fr i : Nat} (h : fr ≤ i) (hi : i ≤ 100000) : encRun (mkR fr (i - fr)) = .agg #[.int .i64 (fr : Int), .int .i64 ((i : Int) - (fr : Int))] := by
  unfold encRun
  rw [mkR_is (by omega)]
  have : ((i - fr : Nat) : Int) = (i : Int) - (fr : Int) := by omega
  rw [this]
/-- What a round of the loop's body keeps: what lay below, and the list's own box. -/
def Kept (n₀ Bn : Nat) (A B : World) : Prop := Below n₀ A B ∧ B.heap[Bn]? = A.heap[Bn]?
theorem kept_t {n₀ Bn : Nat} {A B C : World} (h : Kept n₀ Bn A B) (k : Kept n₀ Bn B C) : Kept n₀ Bn A C := ⟨h.1.trans k.1, k.2.trans h.2⟩
theorem runsG_stop (l : List Int) (d i fr : Nat) (h : ¬ (i < l.length ∧ l.getD i 0 ≠ 1073741824)) (hf : ¬ fr < i) : runsG l (d + 1) i fr = runsG l d (i + 1) (i + 1) := by rw [runsG, if_neg h, if_neg hf]; rfl
theorem runsG_give (l : List Int) (d i fr : Nat) (h : ¬ (i < l.length ∧ l.getD i 0 ≠ 1073741824)) (hf : fr < i) : runsG l (d + 1) i fr = mkR fr (i - fr) :: runsG l d (i + 1) (i + 1) := by rw [runsG, if_neg h, if_pos hf]; rfl
theorem runsG_on (l : List Int) (d i fr : Nat) (h : i < l.length ∧ l.getD i 0 ≠ 1073741824) : runsG l (d + 1) i fr = runsG l d (i + 1) fr := by rw [runsG, if_pos h]

set_option maxRecDepth 1000000 in
set_option maxHeartbeats 8000000 in
theorem runs1_in (n : Nat) (hn : 1 ≤ n) (l Bn : Nat) (A0 : Option Addr) (c0 : Nat) (ls : List Int) (hls : ls.length ≤ 99999) (w0 : World) (hr0 : Kd.C (Kd.int .i64) w0 A0 ls.length ls) (J Jx : List RunP → World → Prop)
    (hY : ∀ pre x W, J pre W → pre.length < (runsG ls (ls.length + 1) 0 0).length → YieldAt Fence.wide (n - 1) Try.prog l #[encRun x] W fun e W' =>
      (e = .returned (.bool true) ∧ J (pre ++ [x]) W' ∧ Kept w0.heap.size Bn W W') ∨ (e = .returned (.bool false) ∧ Jx (pre ++ [x]) W'))
    (W : World) (hBn : Boxed W Bn 22 (.slice A0 ls.length c0)) (hb0 : Below w0.heap.size w0 W) (h0 : J [] W) :
    CallsIn Fence.wide n Try.prog 73 #[.func (.yield l) #[] #[], .pointer (some ⟨Bn, 0, none⟩)] W fun e W' => (∃ v, e = .returned v) ∧
      ((∃ ys, ys = runsG ls (ls.length + 1) 0 0 ∧ J ys W') ∨ (∃ pre, pre <+: runsG ls (ls.length + 1) 0 0 ∧ Jx pre W')) := by
  have HB0 := Aside0.mk hb0
  have HX0 := Aside0.mk hBn
  clear hb0 hBn
  refine callsIn_of_wp Try.func73 rfl trivial ?_ rfl
  simp only [Try.ntmps73, List.size_toArray, List.length_cons, List.length_nil, Nat.reduceAdd, Nat.reduceSub, Array.replicate_succ, Array.replicate_zero, List.push_toArray, List.append_toArray, List.nil_append, List.cons_append]
  gi_wp2
  gi_loopw [3, 4] (fun vf vi wr => ∃ (i fr : Nat) (pre : List RunP), vf = .int .i64 fr ∧ vi = .int .i64 i ∧ fr ≤ i ∧ i ≤ ls.length + 1 ∧ Aside0 (runsG ls (ls.length + 1) 0 0 = pre ++ runsG ls (ls.length + 1 - i) i fr) ∧ Aside0 (J pre wr) ∧ Aside0 (Below w0.heap.size w0 wr) ∧ Aside0 (Boxed wr Bn 22 (.slice A0 ls.length c0)))
    (fun _ vi _ => ls.length + 1 - (intOf vi).toNat)
  case atStart =>
    exact ⟨0, 0, [], rfl, rfl, Nat.le_refl _, Nat.zero_le _, ⟨rfl⟩, ⟨h0⟩, HB0, HX0⟩
  case round =>
    clear HB0 HX0 h0
    obtain ⟨i, fr, pre, rfl, rfl, hfi, hil, HE, HJ, HB, HX⟩ := hrel
    have hbx := HX.out.cell
    by_cases hi : i ≤ ls.length
    · have hle : (i : Int) ≤ (ls.length : Int) := by omega
      obtain ⟨d, hd⟩ : ∃ d, ls.length + 1 - i = d + 1 := ⟨ls.length - i, by omega⟩
      have hd' : ls.length + 1 - (i + 1) = d := by omega
      have step : (i < ls.length ∧ ls.getD i 0 ≠ 1073741824) ∨ ¬ (i < ls.length ∧ ls.getD i 0 ≠ 1073741824) := Classical.em _
      rcases step with hg | hg
      · have HE' := Aside0.mk (show runsG ls (ls.length + 1) 0 0 = pre ++ runsG ls (ls.length + 1 - (i + 1)) (i + 1) fr from by rw [HE.out, hd, hd', runsG_on ls d i fr hg])
        clear HE hd hd'
        obtain ⟨hlt, hne⟩ := hg
        have hlt' : (i : Int) < (ls.length : Int) := by omega
        have h0i : 0 ≤ (i : Int) := by omega
        obtain ⟨ad, e, hx⟩ := Kd.at_int (Kd.C_below hr0 HB.out) (i : Int) h0i hlt'
        subst e
        have er : rd ls (i : Int) = ls.getD i 0 := rfl
        rw [er, Int.toNat_natCast] at hx
        have hne' : (ls.getD i 0 != 1073741824) = true := bne_iff_ne.mpr hne
        generalize hq : ls.getD i 0 = q at *
        clear hq er hne
        gi_wp2
        go_roundw
        case rel => exact ⟨i + 1, fr, pre, rfl, by first | rfl | simp, by omega, by omega, HE', HJ, HB, HX⟩
        case measure => simp [intOf]; omega
      · have hcond : (i < ls.length ∧ ls.getD i 0 = 1073741824) ∨ i = ls.length := by
          by_cases hlt : i < ls.length
          · exact .inl ⟨hlt, Classical.byContradiction fun h => hg ⟨hlt, h⟩⟩
          · exact .inr (by omega)
        by_cases hf : fr < i
        · have HE' := Aside0.mk (show runsG ls (ls.length + 1) 0 0 = (pre ++ [mkR fr (i - fr)]) ++ runsG ls (ls.length + 1 - (i + 1)) (i + 1) (i + 1) from by rw [HE.out, hd, hd', runsG_give ls d i fr hg hf, List.append_assoc]; rfl)
          have hpl : pre.length < (runsG ls (ls.length + 1) 0 0).length := by rw [HE'.out]; simp
          have hy0 := hY pre (mkR fr (i - fr)) wr HJ.out hpl
          rw [encRun_is (by omega) (by omega)] at hy0
          obtain ⟨fn, tmps, assign, body, hy, hR⟩ := hy0
          have HR := Aside0.mk hR
          clear hR HE hd hd' hY hpl hg
          have hf' : (fr : Int) < (i : Int) := by omega
          have hsub : (0 : Int) ≤ (i : Int) - (fr : Int) := by omega
          rcases hcond with ⟨hlt, hm⟩ | hlen
          · have hlt' : (i : Int) < (ls.length : Int) := by omega
            have h0i : 0 ≤ (i : Int) := by omega
            obtain ⟨ad, e, hx⟩ := Kd.at_int (Kd.C_below hr0 HB.out) (i : Int) h0i hlt'
            subst e
            have er : rd ls (i : Int) = 1073741824 := hm
            rw [er, Int.toNat_natCast] at hx
            clear er hm
            gi_wp2
            refine HR.out.mono ?_
            rintro e W3 (⟨rfl, hJ3, hk3⟩ | ⟨rfl, hJx3⟩)
            · have HJ3 := Aside0.mk hJ3
              have HB3 := Aside0.mk (HB.out.trans hk3.1)
              have HX3 := Aside0.mk (hk3.2.trans HX.out)
              clear hJ3 hk3 HJ HB HX hbx
              gi_wp2
              go_roundw
              case rel => exact ⟨i + 1, i + 1, _, by first | rfl | simp, by first | rfl | simp, by omega, by omega, HE', HJ3, HB3, HX3⟩
              case measure => simp [intOf]; omega
            · have HJx3 := Aside0.mk hJx3
              clear hJx3
              gi_wp2
              refine bodyPost_ret (results_none rfl _ _ _) rfl ?_
              exact ⟨⟨_, rfl⟩, .inr ⟨_, ⟨_, HE'.out.symm⟩, HJx3.out⟩⟩
          · have hlt' : ¬ (i : Int) < (ls.length : Int) := by omega
            have hge' : (ls.length : Int) ≤ (i : Int) := by omega
            have dlt : decide ((i : Int) < (ls.length : Int)) = false := decide_eq_false hlt'
            clear hlen
            gi_wp2
            refine HR.out.mono ?_
            rintro e W3 (⟨rfl, hJ3, hk3⟩ | ⟨rfl, hJx3⟩)
            · have HJ3 := Aside0.mk hJ3
              have HB3 := Aside0.mk (HB.out.trans hk3.1)
              have HX3 := Aside0.mk (hk3.2.trans HX.out)
              clear hJ3 hk3 HJ HB HX hbx
              gi_wp2
              go_roundw
              case rel => exact ⟨i + 1, i + 1, _, by first | rfl | simp, by first | rfl | simp, by omega, by omega, HE', HJ3, HB3, HX3⟩
              case measure => simp [intOf]; omega
            · have HJx3 := Aside0.mk hJx3
              clear hJx3
              gi_wp2
              refine bodyPost_ret (results_none rfl _ _ _) rfl ?_
              exact ⟨⟨_, rfl⟩, .inr ⟨_, ⟨_, HE'.out.symm⟩, HJx3.out⟩⟩
        · have HE' := Aside0.mk (show runsG ls (ls.length + 1) 0 0 = pre ++ runsG ls (ls.length + 1 - (i + 1)) (i + 1) (i + 1) from by rw [HE.out, hd, hd', runsG_stop ls d i fr hg hf])
          have hf' : (i : Int) ≤ (fr : Int) := by omega
          clear HE hd hd' hY hg
          rcases hcond with ⟨hlt, hm⟩ | hlen
          · have hlt' : (i : Int) < (ls.length : Int) := by omega
            have h0i : 0 ≤ (i : Int) := by omega
            obtain ⟨ad, e, hx⟩ := Kd.at_int (Kd.C_below hr0 HB.out) (i : Int) h0i hlt'
            subst e
            have er : rd ls (i : Int) = 1073741824 := hm
            rw [er, Int.toNat_natCast] at hx
            clear er hm
            gi_wp2
            refine ⟨fun _ h => (by cases h), ?_⟩
            gi_wp2
            go_roundw
            case rel => exact ⟨i + 1, i + 1, pre, by first | rfl | simp, by first | rfl | simp, by omega, by omega, HE', HJ, HB, HX⟩
            case measure => simp [intOf]; omega
          · have hlt' : ¬ (i : Int) < (ls.length : Int) := by omega
            have hge' : (ls.length : Int) ≤ (i : Int) := by omega
            have dlt : decide ((i : Int) < (ls.length : Int)) = false := decide_eq_false hlt'
            clear hlen
            gi_wp2
            refine ⟨fun _ h => (by cases h), ?_⟩
            gi_wp2
            go_roundw
            case rel => exact ⟨i + 1, i + 1, pre, by first | rfl | simp, by first | rfl | simp, by omega, by omega, HE', HJ, HB, HX⟩
            case measure => simp [intOf]; omega
    · obtain rfl : i = ls.length + 1 := by omega
      have HE' : runsG ls (ls.length + 1) 0 0 = pre := by rw [HE.out, Nat.sub_self]; simp [runsG]
      have hgt : ¬ ((ls.length + 1 : Nat) : Int) ≤ (ls.length : Int) := by omega
      have hgt' : (ls.length : Int) < ((ls.length + 1 : Nat) : Int) := by omega
      have HE2 := Aside0.mk HE'
      clear HE HE' hi hfi hil
      gi_wp2
      go_end0
      exact ⟨⟨_, rfl⟩, .inl (by rw [HE2.out]; exact HJ.out)⟩
set_option maxHeartbeats 1000000 in
theorem runs_in (n : Nat) (A0 : Option Addr) (c0 : Nat) (m : Nat) (w : World) :
    CallsIn Fence.wide n Try.prog 69 #[.slice A0 m c0] w fun e w' => e = .returned (.func (.func 73) #[] #[.pointer (some ⟨w.heap.size, 0, none⟩)]) ∧ w' = w.alloc (.cells #[.slice A0 m c0] 22) := by
  refine callsIn_of_wp Try.func69 rfl trivial ?_ rfl
  simp only [Try.ntmps69, List.size_toArray, List.length_cons, List.length_nil, Nat.reduceAdd, Nat.reduceSub, Array.replicate_succ, Array.replicate_zero, List.push_toArray, List.append_toArray, List.nil_append, List.cons_append]
  gi_wp2
  go_ret
  exact ⟨rfl, rfl⟩
/-- What series.runs hands back gives all runs, in order; or a part, where a round has said 'no more'. -/
theorem runs_stops (n : Nat) (hn : 1 ≤ n) (Bn : Nat) (A0 : Option Addr) (c0 : Nat) (ls : List Int) (hls : ls.length ≤ 99999) (w0 w : World) (hr0 : Kd.C (Kd.int .i64) w0 A0 ls.length ls)
    (hBn : Boxed w Bn 22 (.slice A0 ls.length c0)) (hb0 : Below w0.heap.size w0 w) :
    SeqStopsK Fence.wide n Try.prog 73 #[.pointer (some ⟨Bn, 0, none⟩)] (fun x : RunP => #[encRun x]) (Kept w0.heap.size Bn) (fun ys => ys = runsG ls (ls.length + 1) 0 0) (fun pre => pre <+: runsG ls (ls.length + 1) 0 0) (runsG ls (ls.length + 1) 0 0).length w := fun l J Jx W hW _ _ hY h0 =>
  runs1_in n hn l Bn A0 c0 ls hls w0 hr0 J Jx hY W ((hW.block Bn hBn.lt).trans hBn) (hb0.trans (hW.mono hb0.size)) h0
theorem kept_b {n₀ Bn : Nat} {w : World} (h1 : n₀ ≤ w.heap.size) (h2 : Bn < w.heap.size) (W : World) (l : Nat) (o o' : Obj) (hl : w.heap.size ≤ l) (ho : W.heap[l]? = some o) (hc : o.isCells = false) (hw : o.isWalk = false) : Kept n₀ Bn W (W.putObj l o') :=
  ⟨belowK_b h1 W l o o' hl ho hc hw, (grownBy_putObj' W l o').block Bn (by have := (Array.getElem?_eq_some_iff.1 ho).1; omega) (by intro e; injection e with e; omega)⟩
end Go.Proofs.Ytdnhfofmfpgmmaa.X
