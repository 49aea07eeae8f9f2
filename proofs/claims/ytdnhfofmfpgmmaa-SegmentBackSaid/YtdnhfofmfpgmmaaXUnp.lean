/- This file proves what the reader of packed bits of package codec computes: its closure reads one bit, two loops read them all. -/
import Derived.Test.YtdnhfofmfpgmmaaXWords
import Derived.Test.YtdnhfofmfpgmmaaProg
import Derived.Deep.WholeRow
import Derived.Deep.LoopGhost
import Derived.Laws.Tables
import Derived.Laws.ResultCell
import Derived.Laws.ByValue
import Derived.WalkKit
import Derived.RowKit3
import Derived.Outline
import Derived.OpenShut
set_option linter.unusedVariables false
set_option linter.unusedSimpArgs false
namespace Go.Proofs.Ytdnhfofmfpgmmaa.X
open Go.RowKit Go.Proofs.YtdnhfofmfpgmmaaW.PrintWords Go.Proofs.YtdnhfofmfpgmmaaW.PrintLast Go.Proofs.YtdnhfofmfpgmmaaW.PrintMore

theorem w64' {n : Int} (h1 : -9223372036854775808 ≤ n) (h2 : n ≤ 9223372036854775807) : wrap64 n = n := by unfold wrap64; omega
/-- One bit, as the closure reckons it. -/
def bitz (l0 : List Int) (i : Nat) : Int := wrap64 (Go.bits .and .u8 (rd l0 ((i / 8 : Nat) : Int) / 2 ^ (i % 8)) 1)
set_option maxHeartbeats 4000000 in
set_option maxRecDepth 1000000 in
theorem bit_calls (g : Nat) (A0 : Option Addr) (c0 : Nat) (l0 : List Int) (i : Nat) (w : World) (hcell : w.heap[g]? = some (.cells #[.slice A0 l0.length c0] 29 (0, 0))) (hr : Kd.C (Kd.int .u8) w A0 l0.length l0) (hi : i < 8 * l0.length) (hl : l0.length ≤ 1000000000) :
    Calls Try.prog 103 #[.int .i64 (i : Int), .pointer (some ⟨g, 0, none⟩)] w fun e w' => e = .returned (.int .i64 (bitz l0 i)) ∧ w' = w := by
  have hc : w.cell? ⟨g, 0, none⟩ = some (.slice A0 l0.length c0) := (blk_cell hcell 0).trans rfl
  have hq : Int.tdiv (i : Int) 8 = ((i / 8 : Nat) : Int) := rfl
  have hm : Int.tmod (i : Int) 8 = ((i % 8 : Nat) : Int) := rfl
  have hlt : (((i / 8 : Nat) : Int)) < (l0.length : Int) := by omega
  obtain ⟨ad, e, hx⟩ := Kd.at_int hr ((i / 8 : Nat) : Int) (by omega) hlt
  cases e
  rw [Int.toNat_natCast] at hx
  go_enter Try.func103, Try.ntmps103
  go_wp2_with fail
  go_ret
  exact ⟨rfl, rfl⟩
theorem info_i : (Try.prog.info? 3).map (fun i => (i.zero, i.size, i.bytes)) = some (some (.int .i64 0), 1, 8) := by kernel_rfl
/-- The number behind k of its bits, for whatever tells a bit. -/
def acc (bz : Nat → Int) (wd i : Nat) : Nat → Int
  | 0 => 0
  | k + 1 => Go.bits .or .i64 (acc bz wd i k) (shl .i64 (bz (i * wd + k)) (k : Int))
def unp (bz : Nat → Int) (wd n : Nat) : List Int := (List.range n).map fun i => acc bz wd i wd
/-- What lies behind the numbers is 0. -/
def padb (bz : Nat → Int) (p q : Nat) : Bool := (List.range (q - p)).all fun j => bz (p + j) == 0
theorem unp_succ (bz : Nat → Int) (wd i : Nat) : unp bz wd (i + 1) = unp bz wd i ++ [acc bz wd i wd] := by unfold unp; rw [List.range_succ, List.map_append]; rfl
theorem unp_len (bz : Nat → Int) (wd n : Nat) : (unp bz wd n).length = n := by simp [unp]
set_option maxHeartbeats 8000000 in
set_option maxRecDepth 1000000 in
theorem unpack_ok (bz : Nat → Int) (A0 : Option Addr) (c0 : Nat) (l0 : List Int) (wd n p q : Nat) (w : World) (hr0 : Kd.C (Kd.int .u8) w A0 l0.length l0) (h1 : wd ≤ 32) (h2 : n ≤ 2000) (hp : Aside0 (p = wd * n)) (hq : Aside0 (q = 8 * l0.length)) (hpq : p ≤ q) (hl : l0.length ≤ 1000000)
    (hs : Aside0 (∀ w1 : World, Calls Try.prog 102 #[.int .i64 (wd : Int), .int .i64 (n : Int)] w1 fun e w' => e = .returned (.int .i64 (l0.length : Int)) ∧ Drawn0 w1 w'))
    (hc : Aside0 (∀ (i : Nat) (z : Int) (W : World), i < q → z = (i : Int) → W.heap[w.heap.size]? = some (.cells #[.slice A0 l0.length c0] 29 (0, 0)) → Kd.C (Kd.int .u8) W A0 l0.length l0 →
      Calls Try.prog 103 #[.int .i64 z, .pointer (some ⟨w.heap.size, 0, none⟩)] W fun e w' => e = .returned (.int .i64 (bz i)) ∧ w' = W)) :
    Calls Try.prog 98 #[.slice A0 l0.length c0, .int .i64 (wd : Int), .int .i64 (n : Int)] w fun e w' =>
      (padb bz p q = true ∧ ∃ v0, e = .returned (.tuple #[v0, .int .i64 0]) ∧ Kd.R (Kd.int .i64) 3 w' w.heap.size (fun _ => True) v0 (unp bz wd n) ∧ Below w.heap.size w w') ∨
      (padb bz p q = false ∧ e = .returned (.tuple #[.slice none 0 0, .int .i64 3]) ∧ Below w.heap.size w w') := by
  have hmf : ∀ (fn : Fn) (first cap : Array Value) (w : World), (Instr.makeFunc fn first cap).run Try.prog w = .ok (.func fn first cap) w := fun _ _ _ _ => rfl
  have g1 : 0 ≤ (wd : Int) ∧ (wd : Int) ≤ 32 := by omega
  have g2 : 0 ≤ (n : Int) ∧ (n : Int) ≤ 2000 := by omega
  have hq8 : q ≤ 8000000 := by have := hq.out; omega
  have he : wrap64 ((wd : Int) * (n : Int)) = (p : Int) := by
    have hwn : wd * n ≤ 64000 := Nat.mul_le_mul h1 h2
    rw [← Int.natCast_mul, ← hp.out, w64' (by have := hp.out; omega) (by have := hp.out; omega)]
  have hee : ((wd : Int) * (n : Int)) = (p : Int) := by rw [← Int.natCast_mul, ← hp.out]
  have he8 : wrap64 (8 * (l0.length : Int)) = (q : Int) := by rw [w64' (by omega) (by omega), hq.out]; omega
  have hee8 : (8 * (l0.length : Int)) = (q : Int) := by rw [hq.out]; omega
  go_enter Try.func98, Try.ntmps98
  go_wp2_with (first | (go_at_call 102; refine (hs.out _).mono ?_; rintro e w1 ⟨rfl, nd, rfl⟩))
  have HG := Aside0.mk (show (World.drewN (w.alloc (Obj.cells #[.slice A0 l0.length c0] 29)) nd).heap[w.heap.size]? = some (.cells #[.slice A0 l0.length c0] 29 (0, 0)) from by (with_reducible repeat (first | refine blk_drewN ?_ _ | refine blk_drew ?_)); exact heap_alloc_new w _)
  have HB := Aside0.mk (show Below w.heap.size w (World.drewN (w.alloc (Obj.cells #[.slice A0 l0.length c0] 29)) nd) from by repeat (first | (with_reducible first | exact Below.refl _ _ | apply below_alloc | apply pw_below_drewN | apply below_drew1) | exact Below.refl _ _))
  have HR := Aside0.mk (Kd.C_below hr0 HB.out)
  generalize hW : World.drewN (w.alloc (Obj.cells #[.slice A0 l0.length c0] 29)) nd = W at *
  clear hW hr0
  have hws : w.heap.size < W.heap.size := blk_lt HG.out
  go_loopg [10] (q - p) (fun g s10 wx => ∃ i : Nat, i + g = q ∧ p ≤ i ∧ s10 = .int .i64 i ∧ Aside0 (∀ j, p + j < i → bz (p + j) = 0) ∧ wx = W)
  case atStart => exact ⟨p, by omega, Nat.le_refl _, rfl, ⟨fun j hj => by omega⟩, rfl⟩
  case round =>
    obtain ⟨i, hi, hpi, rfl, HZ, hwx⟩ := hrel
    have hwx' := hwx.symm
    clear hwx
    subst hwx'
    cases gk with
    | succ g =>
      have hlt : i < q := by omega
      have hlt' : (i : Int) < (q : Int) := by omega
      by_cases hb : bz i = 0
      · go_wp2_with (first | (go_at_call 103; refine (hc.out i _ _ hlt rfl HG.out HR.out).mono ?_; rintro e w' ⟨rfl, rfl⟩))
        go_roundg g
        case measure => omega
        case rel =>
          refine ⟨i + 1, by omega, by omega, by first | rfl | simp, ⟨fun j hj => ?_⟩, rfl⟩
          by_cases hji : p + j = i
          · rw [hji]
            exact hb
          · exact HZ.out j (by omega)
      · go_wp2_with (first | (go_at_call 103; refine (hc.out i _ _ hlt rfl HG.out HR.out).mono ?_; rintro e w' ⟨rfl, rfl⟩))
        go_ret2
        refine Or.inr ⟨?_, rfl, HB.out⟩
        rw [padb, List.all_eq_false]
        by_cases hip : p ≤ i
        · exact ⟨i - p, List.mem_range.2 (by omega), by rw [show p + (i - p) = i by omega]; simpa using hb⟩
        · exact absurd hpi hip
    | zero =>
      have hiq : i = q := by omega
      have hpad : Aside0 (padb bz p q = true) := ⟨by
        rw [padb, List.all_eq_true]
        intro j hj
        have := List.mem_range.1 hj
        rw [beq_iff_eq]
        exact HZ.out j (by omega)⟩
      clear HZ
      go_wp2_with (first | ((with_reducible refine gate_dst (N := 52) rfl ?_); refine Kd.R_make (Kd.int .i64) _ 3 rfl (N := 52) rfl 22 _ _ rfl (n : Int) rfl rfl Try.underlying22 (.int .i64 0) 8 info_i rfl (by decide) (by omega) 0 (ok := fun _ => True) (okp := fun _ => True) rfl (fun _ hk => hk) trivial (by omega) (by rw [Int.toNat_natCast]; omega) (Below.refl _ _) (Nat.le_refl _) ?_; intro v52 w10 ho hb hg_ hnew_; clear hg_ hnew_; rw [Int.toNat_natCast] at ho; obtain ⟨A52, c52, e52⟩ := Kd.R_slice ho; rw [List.length_replicate] at e52; subst e52))
      have HO := Aside0.mk ho
      have HBo := Aside0.mk hb
      clear ho hb
      go_loopg [55] n (fun g s55 wx => ∃ (j : Nat) (x : List Int), j + g = n ∧ s55 = .int .i64 j ∧ Aside0 (x = unp bz wd j ++ List.replicate (n - j) 0) ∧ Aside0 (Kd.R (Kd.int .i64) 3 wx W.heap.size (fun _ => True) (.slice A52 n c52) x) ∧ Aside0 (Below W.heap.size W wx))
      case atStart => exact ⟨0, List.replicate n 0, by omega, rfl, ⟨by simp [unp]⟩, ⟨HO.out⟩, ⟨HBo.out⟩⟩
      case round =>
        clear HO HBo
        obtain ⟨i, x, hin, rfl, HX, HO, HBx⟩ := hrel
        cases gk with
        | zero =>
          obtain rfl : i = n := by omega
          go_wp2_with fail
          go_ret2
          refine Or.inl ⟨hpad.out, _, rfl, ?_, below_step HB.out HBx.out⟩
          have e : x = unp bz wd i := by rw [HX.out, Nat.sub_self, List.replicate_zero, List.append_nil]
          rw [← e]
          exact Kd.R_lower HO.out (below_size HB.out)
        | succ g =>
          have hlt : i < n := by omega
          have hlt' : (i : Int) < (n : Int) := by omega
          go_wp2_with fail
          go_loopg [59] wd (fun gq s59 wx => ∃ (k : Nat) (x : List Int), k + gq = wd ∧ s59 = .int .i64 k ∧ Aside0 (x = unp bz wd i ++ acc bz wd i k :: List.replicate (n - i - 1) 0) ∧ Aside0 (Kd.R (Kd.int .i64) 3 wx W.heap.size (fun _ => True) (.slice A52 n c52) x) ∧ Aside0 (Below W.heap.size W wx))
          case atStart => exact ⟨0, x, by omega, rfl, ⟨by rw [HX.out, show n - i = (n - i - 1) + 1 by omega, List.replicate_succ]; rfl⟩, ⟨HO.out⟩, ⟨HBx.out⟩⟩
          case round =>
            clear HO HBx HX
            obtain ⟨k, x, hkw, rfl, HX, HO, HBx⟩ := hrel
            cases gk with
            | zero =>
              obtain rfl : k = wd := by omega
              go_wp2_with fail
              go_roundg g
              case measure => omega
              case rel => exact ⟨i + 1, x, by omega, by first | rfl | simp, ⟨by rw [HX.out, unp_succ, List.append_assoc, show n - (i + 1) = n - i - 1 by omega]; rfl⟩, ⟨HO.out⟩, ⟨HBx.out⟩⟩
            | succ gq =>
              have hk : k < wd := by omega
              have hk' : (k : Int) < (wd : Int) := by omega
              go_wp2_with fail
              have hlen : x.length = n := by rw [HX.out, List.length_append, unp_len, List.length_cons, List.length_replicate]; omega
              have hlti : (i : Int) < (x.length : Int) := by omega
              have hm : i * wd + k < q := by
                have h3 : (i + 1) * wd ≤ n * wd := Nat.mul_le_mul_right wd (by omega)
                rw [Nat.add_mul, Nat.one_mul] at h3
                have h4 := hp.out
                rw [Nat.mul_comm] at h4
                omega
              have hz : wrap64 (wrap64 ((i : Int) * (wd : Int)) + (k : Int)) = ((i * wd + k : Nat) : Int) := by
                rw [← Int.natCast_mul, w64' (n := ((i * wd : Nat) : Int)) (by omega) (by omega), w64' (by omega) (by omega)]
                omega
              have HZ2 := Aside0.mk hz
              clear hz
              have hk63 : (k : Int) ≤ 64 := by omega
              have hk64 : min k 64 = k := Nat.min_eq_left (by omega)
              have hk0 : 0 ≤ (k : Int) := by omega
              have HOd := Aside0.mk (Kd.R_drew HO.out)
              have HBd := Aside0.mk (below_drew1 HBx.out)
              obtain ⟨go, co, eo, gb, gl, cl, HGx⟩ := Kd.R_form HOd.out (by rw [hlen]; omega)
              injection eo with ea en ec
              subst ea
              subst ec
              have GB := Aside0.mk gb
              clear gb gl cl HGx HO HBx en
              have HGd := Aside0.mk ((HBd.out.block _ hws).trans HG.out)
              have HRd := Aside0.mk (Kd.C_below HR.out HBd.out)
              obtain ⟨hx, hf⟩ := Kd.R_celln 0 HOd.out (i : Int) (by omega) hlt'
              rw [Int.toNat_natCast] at hx hf
              obtain ⟨sh, hsh⟩ : ∃ j_ : Int, shl .i64 (bz (i * wd + k)) (k : Int) = j_ := ⟨_, rfl⟩
              have HSH := Aside0.mk hsh
              have hsh2 := shl_small hsh hk63
              rw [Int.toNat_natCast] at hsh2
              have hsh3 := (i64_w _).symm.trans hsh2
              have HP := Aside0.mk (Kd.R_putn HOd.out (i : Int) (Go.bits .or .i64 (rd x (i : Int)) sh))
              refine start_ (n := 16) (S := fun w' => w'.cell? ⟨go, i, none⟩ = some (.int .i64 (rd x (i : Int)))) (ds := [15]) #[false, false, false, false, false, false, false, false, false, false, false, false, false, false, false, false] (by kernel_rfl) rfl rfl (hx) (fun hHeld => ?_)
              generalize wr.drew = w3 at HOd HBd HGd HRd hf HP hx hHeld ⊢
              refine pure_ (i := 0) (N := some 62) (v := ?_) (a' := ?_) #[true, false, false, false, false, false, false, false, false, false, false, false, false, false, false, false] rfl rfl (by kernel_rfl) (fun _ _ _ h => h) (Or.inl ⟨by rfl, ?_⟩) ?_ ?_
              rotate_left
              · intro w'
                go_simp
                with_reducible rfl
              rotate_left
              · simp only [Act.put, List.setIfInBounds_toArray, List.set_cons_zero, List.set_cons_succ, i64_w, i32_w]
                rfl
              refine pure_ (i := 1) (N := some 63) (v := ?_) (a' := ?_) #[true, true, false, false, false, false, false, false, false, false, false, false, false, false, false, false] rfl rfl (by kernel_rfl) (fun _ _ _ h => h) (Or.inl ⟨by rfl, ?_⟩) ?_ ?_
              rotate_left
              · intro w'
                go_simp
                with_reducible rfl
              rotate_left
              · simp only [Act.put, List.setIfInBounds_toArray, List.set_cons_zero, List.set_cons_succ, i64_w, i32_w]
                rfl
              refine pure_ (i := 2) (N := some 64) (v := ?_) (a' := ?_) #[true, true, true, false, false, false, false, false, false, false, false, false, false, false, false, false] rfl rfl (by kernel_rfl) (fun _ _ _ h => h) (Or.inl ⟨by rfl, ?_⟩) ?_ ?_
              rotate_left
              · intro w'
                go_simp
                with_reducible rfl
              rotate_left
              · simp only [Act.put, List.setIfInBounds_toArray, List.set_cons_zero, List.set_cons_succ, i64_w, i32_w]
                rfl
              refine pure_ (i := 4) (N := some 66) (v := ?_) (a' := ?_) #[true, true, true, false, true, false, false, false, false, false, false, false, false, false, false, false] rfl rfl (by kernel_rfl) (fun _ _ _ h => h) (Or.inl ⟨by rfl, ?_⟩) ?_ ?_
              rotate_left
              · intro w'
                go_simp
                with_reducible rfl
              rotate_left
              · simp only [Act.put, List.setIfInBounds_toArray, List.set_cons_zero, List.set_cons_succ, i64_w, i32_w]
                rfl
              refine pure_ (i := 5) (N := some 67) (v := ?_) (a' := ?_) #[true, true, true, false, true, true, false, false, false, false, false, false, false, false, false, false] rfl rfl (by kernel_rfl) (fun _ _ _ h => h) (Or.inl ⟨by rfl, ?_⟩) ?_ ?_
              rotate_left
              · intro w'
                go_simp
                with_reducible rfl
              rotate_left
              · simp only [Act.put, List.setIfInBounds_toArray, List.set_cons_zero, List.set_cons_succ, i64_w, i32_w]
                rfl
              refine pure_ (i := 6) (N := some 68) (v := ?_) (a' := ?_) #[true, true, true, false, true, true, true, false, false, false, false, false, false, false, false, false] rfl rfl (by kernel_rfl) (fun _ _ _ h => h) (Or.inl ⟨by rfl, ?_⟩) ?_ ?_
              rotate_left
              · intro w'
                go_simp
                with_reducible rfl
              rotate_left
              · simp only [Act.put, List.setIfInBounds_toArray, List.set_cons_zero, List.set_cons_succ, i64_w, i32_w]
                rfl
              refine pure_ (i := 7) (N := some 69) (v := ?_) (a' := ?_) #[true, true, true, false, true, true, true, true, false, false, false, false, false, false, false, false] rfl rfl (by kernel_rfl) (fun _ _ _ h => h) (Or.inl ⟨by rfl, ?_⟩) ?_ ?_
              rotate_left
              · intro w'
                go_simp
                with_reducible rfl
              rotate_left
              · simp only [Act.put, List.setIfInBounds_toArray, List.set_cons_zero, List.set_cons_succ, i64_w, i32_w]
                rfl
              refine pure_ (i := 8) (N := some 70) (v := ?_) (a' := ?_) #[true, true, true, false, true, true, true, true, true, false, false, false, false, false, false, false] rfl rfl (by kernel_rfl) (fun _ _ _ h => h) (Or.inl ⟨by rfl, ?_⟩) ?_ ?_
              rotate_left
              · intro w'
                go_simp
                with_reducible rfl
              rotate_left
              · simp only [Act.put, List.setIfInBounds_toArray, List.set_cons_zero, List.set_cons_succ, i64_w, i32_w]
                rfl
              refine pure_ (i := 9) (N := some 71) (v := ?_) (a' := ?_) #[true, true, true, false, true, true, true, true, true, true, false, false, false, false, false, false] rfl rfl (by kernel_rfl) (fun _ _ _ h => h) (Or.inl ⟨by rfl, ?_⟩) ?_ ?_
              rotate_left
              · intro w'
                go_simp
                with_reducible rfl
              rotate_left
              · simp only [Act.put, List.setIfInBounds_toArray, List.set_cons_zero, List.set_cons_succ, i64_w, i32_w]
                rfl
              refine pure_ (i := 11) (N := some 73) (v := ?_) (a' := ?_) #[true, true, true, false, true, true, true, true, true, true, false, true, false, false, false, false] rfl rfl (by kernel_rfl) (fun _ _ _ h => h) (Or.inl ⟨by rfl, ?_⟩) ?_ ?_
              rotate_left
              · intro w'
                go_simp
                with_reducible rfl
              rotate_left
              · simp only [Act.put, List.setIfInBounds_toArray, List.set_cons_zero, List.set_cons_succ, i64_w, i32_w]
                rfl
              refine take_ (i := 3) (N := some 65) (v := ?_) (a' := ?_) #[true, true, true, true, true, true, true, true, true, true, false, true, false, false, false, false] rfl rfl (by kernel_rfl) (fun _ _ _ h => h) (Or.inl ⟨by rfl, ?_⟩) hHeld ?_ ?_
              rotate_left
              · intro w' s0
                go_simp
                with_reducible rfl
              rotate_left
              · simp only [Act.put, List.setIfInBounds_toArray, List.set_cons_zero, List.set_cons_succ, i64_w, i32_w]
                rfl
              refine one_ (i := 10) (N := some 72) #[true, true, true, true, true, true, true, true, true, true, true, true, false, false, false, false] rfl rfl (by kernel_rfl) (by decide) (fun K hK => ?_)
              refine call_ 103 #[.int .i64 (wrap64 (wrap64 ((i : Int) * (wd : Int)) + (k : Int))), .pointer (some ⟨w.heap.size, 0, none⟩)] (by rfl) rfl ?_ ?_
              · go_simp
              refine (hc.out (i * wd + k) _ w3 hm HZ2.out HGd.out HRd.out).mono ?_
              rintro e w' ⟨rfl, rfl⟩
              refine ⟨_, rfl, ?_⟩
              refine hK.out _ _ (hHeld) (fun hHeld => ?_)
              clear hK K
              refine norm_ (a' := ?_) ?_ ?_
              rotate_left
              · show Act.put _ (some 72) _ = _
                simp only [Act.put, List.setIfInBounds_toArray, List.set_cons_zero, List.set_cons_succ, i64_w, i32_w]
                rfl
              refine pure_ (i := 12) (N := some 74) (v := ?_) (a' := ?_) #[true, true, true, true, true, true, true, true, true, true, true, true, true, false, false, false] rfl rfl (by kernel_rfl) (fun _ _ _ h => h) (Or.inl ⟨by rfl, ?_⟩) ?_ ?_
              rotate_left
              · intro w'
                go_simp
                with_reducible rfl
              rotate_left
              · simp only [Act.put, List.setIfInBounds_toArray, List.set_cons_zero, List.set_cons_succ, i64_w, i32_w]
                rfl
              refine pure_ (i := 13) (N := some 75) (v := ?_) (a' := ?_) #[true, true, true, true, true, true, true, true, true, true, true, true, true, true, false, false] rfl rfl (by kernel_rfl) (fun _ _ _ h => h) (Or.inl ⟨by rfl, ?_⟩) ?_ ?_
              rotate_left
              · intro w'
                go_simp
                with_reducible rfl
              rotate_left
              · simp only [Act.put, List.setIfInBounds_toArray, List.set_cons_zero, List.set_cons_succ, i64_w, i32_w]
                rfl
              refine pure_ (i := 14) (N := some 76) (v := ?_) (a' := ?_) #[true, true, true, true, true, true, true, true, true, true, true, true, true, true, true, false] rfl rfl (by kernel_rfl) (fun _ _ _ h => h) (Or.inl ⟨by rfl, ?_⟩) ?_ ?_
              rotate_left
              · intro w'
                go_simp
                with_reducible rfl
              rotate_left
              · simp only [Act.put, List.setIfInBounds_toArray, List.set_cons_zero, List.set_cons_succ, i64_w, i32_w]
                rfl
              refine last_ (i := 15) (N := none) #[true, true, true, true, true, true, true, true, true, true, true, true, true, true, true, true] rfl rfl (by kernel_rfl) (by decide) (fun K hK => ?_)
              refine skip_ (w1 := ?_) (by rfl) rfl ?_ ?_
              rotate_left
              · go_simp
                rfl
              refine hK.out _ _ ?_
              clear hK K
              refine done_ (by kernel_rfl) ?_
              clear hsh hsh2 hsh3
              try go_wp2
              go_roundg gq
              case measure => omega
              case rel =>
                refine ⟨k + 1, _, by omega, by first | rfl | simp, ⟨?_⟩, ⟨HP.out⟩, ⟨below_set HBd.out GB.out⟩⟩
                have e1 : rd x (i : Int) = acc bz wd i k := by
                  unfold rd
                  rw [Int.toNat_natCast, HX.out, List.getD_eq_getElem?_getD, List.getElem?_append_right (by rw [unp_len]; exact Nat.le_refl _), unp_len, Nat.sub_self]
                  rfl
                rw [e1, HX.out, Int.toNat_natCast, List.set_append_right _ _ (by rw [unp_len]; exact Nat.le_refl _), unp_len, Nat.sub_self, List.set_cons_zero, ← HSH.out]
                rfl
set_option maxHeartbeats 4000000 in
set_option maxRecDepth 1000000 in
theorem unpack_range (A0 : Option Addr) (c0 : Nat) (l0 : List Int) (a1 a2 : Int) (w : World) (h : a1 < 0 ∨ 32 < a1) :
    Calls Try.prog 98 #[.slice A0 l0.length c0, .int .i64 a1, .int .i64 a2] w fun e w' => e = .returned (.tuple #[.slice none 0 0, .int .i64 1]) ∧ Below w.heap.size w w' := by
  by_cases h0 : a1 < 0
  · have d0 : decide (a1 < 0) = true := decide_eq_true h0
    go_enter Try.func98, Try.ntmps98
    go_wp2_with fail
    go_ret2
    exact ⟨rfl, by repeat (first | (with_reducible first | exact Below.refl _ _ | apply below_alloc | apply pw_below_drewN | apply below_drew1) | exact Below.refl _ _)⟩
  · have h1 : 32 < a1 := by omega
    have d0 : decide (a1 < 0) = false := decide_eq_false h0
    have d1 : decide (32 < a1) = true := decide_eq_true h1
    go_enter Try.func98, Try.ntmps98
    go_wp2_with fail
    go_ret2
    exact ⟨rfl, by repeat (first | (with_reducible first | exact Below.refl _ _ | apply below_alloc | apply pw_below_drewN | apply below_drew1) | exact Below.refl _ _)⟩
set_option maxHeartbeats 4000000 in
set_option maxRecDepth 1000000 in
theorem unpack_limit (A0 : Option Addr) (c0 : Nat) (l0 : List Int) (a1 a2 : Int) (w : World) (g0 : 0 ≤ a1) (g1 : a1 ≤ 32) (h : a2 < 0 ∨ 2000 < a2) :
    Calls Try.prog 98 #[.slice A0 l0.length c0, .int .i64 a1, .int .i64 a2] w fun e w' => e = .returned (.tuple #[.slice none 0 0, .int .i64 4]) ∧ Below w.heap.size w w' := by
  have e0 : decide (a1 < 0) = false := decide_eq_false (by omega)
  have e1 : decide (32 < a1) = false := decide_eq_false (by omega)
  by_cases h0 : a2 < 0
  · have d0 : decide (a2 < 0) = true := decide_eq_true h0
    go_enter Try.func98, Try.ntmps98
    go_wp2_with fail
    go_ret2
    exact ⟨rfl, by repeat (first | (with_reducible first | exact Below.refl _ _ | apply below_alloc | apply pw_below_drewN | apply below_drew1) | exact Below.refl _ _)⟩
  · have h1 : 2000 < a2 := by omega
    have d0 : decide (a2 < 0) = false := decide_eq_false h0
    have d1 : decide (2000 < a2) = true := decide_eq_true h1
    go_enter Try.func98, Try.ntmps98
    go_wp2_with fail
    go_ret2
    exact ⟨rfl, by repeat (first | (with_reducible first | exact Below.refl _ _ | apply below_alloc | apply pw_below_drewN | apply below_drew1) | exact Below.refl _ _)⟩
set_option maxHeartbeats 4000000 in
set_option maxRecDepth 1000000 in
theorem unpack_size (A0 : Option Addr) (c0 : Nat) (l0 : List Int) (a1 a2 m : Int) (w : World) (g0 : 0 ≤ a1) (g1 : a1 ≤ 32) (g2 : 0 ≤ a2) (g3 : a2 ≤ 2000) (hm : (l0.length : Int) ≠ m)
    (hs : Aside0 (∀ w1 : World, Calls Try.prog 102 #[.int .i64 a1, .int .i64 a2] w1 fun e w' => e = .returned (.int .i64 m) ∧ Drawn0 w1 w')) :
    Calls Try.prog 98 #[.slice A0 l0.length c0, .int .i64 a1, .int .i64 a2] w fun e w' => e = .returned (.tuple #[.slice none 0 0, .int .i64 (if (l0.length : Int) < m then 2 else 3)]) ∧ Below w.heap.size w w' := by
  have e0 : decide (a1 < 0) = false := decide_eq_false (by omega)
  have e1 : decide (32 < a1) = false := decide_eq_false (by omega)
  have e2 : decide (a2 < 0) = false := decide_eq_false (by omega)
  have e3 : decide (2000 < a2) = false := decide_eq_false (by omega)
  by_cases h0 : (l0.length : Int) < m
  · have d0 : decide ((l0.length : Int) < m) = true := decide_eq_true h0
    rw [if_pos h0]
    go_enter Try.func98, Try.ntmps98
    go_wp2_with (first | (go_at_call 102; refine (hs.out _).mono ?_; rintro e w1 ⟨rfl, nd, rfl⟩))
    go_ret2
    exact ⟨rfl, by repeat (first | (with_reducible first | exact Below.refl _ _ | apply below_alloc | apply pw_below_drewN | apply below_drew1) | exact Below.refl _ _)⟩
  · have h1 : m < (l0.length : Int) := by omega
    have d0 : decide ((l0.length : Int) < m) = false := decide_eq_false h0
    have d1 : decide (m < (l0.length : Int)) = true := decide_eq_true h1
    rw [if_neg h0]
    go_enter Try.func98, Try.ntmps98
    go_wp2_with (first | (go_at_call 102; refine (hs.out _).mono ?_; rintro e w1 ⟨rfl, nd, rfl⟩))
    go_ret2
    exact ⟨rfl, by repeat (first | (with_reducible first | exact Below.refl _ _ | apply below_alloc | apply pw_below_drewN | apply below_drew1) | exact Below.refl _ _)⟩
end Go.Proofs.Ytdnhfofmfpgmmaa.X
