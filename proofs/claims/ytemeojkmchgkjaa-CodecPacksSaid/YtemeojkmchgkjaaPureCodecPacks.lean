/- This file proves that numbers are read as they were packed, in as few bytes as their bits need, and that a width one less does not do. -/
import Derived.Test.YtemeojkmchgkjaaPCodecPacksx4
import Derived.Test.YtemeojkmchgkjaaBase
set_option linter.unusedVariables false
namespace Go.Proofs.Ytemeojkmchgkjaa.Pure
open Go.RowKit Go.Proofs.Ytemeojkmchgkjaa.PCodecPacks Go.Proofs.YtemeojkmchgkjaaW.PrintWords Go.Proofs.YtemeojkmchgkjaaW.PrintLast Go.Proofs.YtemeojkmchgkjaaW.PrintMore Go.Proofs.Ytemeojkmchgkjaa.Base
/-! ### bits of bytes -/
def byt (b : List Int) : Prop := ∀ x ∈ b, 0 ≤ x ∧ x ≤ 255
def tb (b : List Int) (m : Nat) : Bool := (b.getD (m / 8) 0).toNat.testBit (m % 8)
def bx (xs : List Int) (w m : Nat) : Bool := (xs.getD (m / w) 0).toNat.testBit (m % w)
theorem or_b : ∀ x < 256, ∀ j < 8, Go.bits .or .u8 ((x : Nat) : Int) (shl .u8 1 ((j : Nat) : Int)) = ((x ||| 2 ^ j : Nat) : Int) ∧ x ||| 2 ^ j < 256 := by decide +kernel
theorem xor_b : ∀ x < 256, ∀ j < 8, Go.bits .xor .u8 ((x : Nat) : Int) (shl .u8 1 ((j : Nat) : Int)) = ((x ^^^ 2 ^ j : Nat) : Int) ∧ x ^^^ 2 ^ j < 256 := by decide +kernel
theorem bit_b : ∀ x < 256, ∀ j < 8, wrap64 (Go.bits .and .u8 (((x : Nat) : Int) / 2 ^ j) 1) = if x.testBit j then 1 else 0 := by decide +kernel
theorem wi64' (n : Int) : IntKind.i64.wrap n = wrap64 n := by
  have e : (2 : Int) ^ IntKind.i64.bits = 18446744073709551616 := rfl
  simp [IntKind.wrap, IntKind.bits, IntKind.signed, wrap64] <;> omega
theorem bv64 (a : Nat) : BitVec.ofInt 64 (a : Int) = BitVec.ofNat 64 a := BitVec.ofInt_natCast 64 a
theorem and_i64 {a : Nat} (h : a < 9223372036854775808) : Go.bits .and .i64 (a : Int) 1 = ((a % 2 : Nat) : Int) := by
  have e : BitVec.ofInt 64 1 = 1#64 := by decide
  show IntKind.i64.wrap ((BitVec.ofInt 64 (a : Int) &&& BitVec.ofInt 64 1).toNat : Int) = _
  have k : (2 : Nat) ^ 64 = 18446744073709551616 := rfl
  rw [e, bv64, BitVec.toNat_and, BitVec.toNat_ofNat, wi64']
  have e3 : (1#64).toNat = 1 := rfl
  rw [e3, Nat.and_one_is_mod, k, Nat.mod_eq_of_lt (show a < 18446744073709551616 by omega), w64 (by omega) (by omega)]
theorem or_i64 {u v j : Nat} (hu : u < 2 ^ j) (h : u + v * 2 ^ j < 9223372036854775808) : Go.bits .or .i64 (u : Int) ((v * 2 ^ j : Nat) : Int) = ((u + v * 2 ^ j : Nat) : Int) := by
  show IntKind.i64.wrap ((BitVec.ofInt 64 (u : Int) ||| BitVec.ofInt 64 ((v * 2 ^ j : Nat) : Int)).toNat : Int) = _
  have k : (2 : Nat) ^ 64 = 18446744073709551616 := rfl
  have e3 := Nat.two_pow_add_eq_or_of_lt hu v
  rw [Nat.mul_comm (2 ^ j) v, Nat.or_comm] at e3
  rw [bv64, bv64, BitVec.toNat_or, BitVec.toNat_ofNat, BitVec.toNat_ofNat, wi64', k, Nat.mod_eq_of_lt (show u < 18446744073709551616 by omega), Nat.mod_eq_of_lt (show v * 2 ^ j < 18446744073709551616 by omega), ← e3, w64 (by omega) (by omega)]
  omega
theorem xor_i64 {a b : Nat} (ha : a < 4294967296) (hb : b < 4294967296) : Go.bits .xor .i64 (a : Int) (b : Int) = ((a ^^^ b : Nat) : Int) := by
  show IntKind.i64.wrap ((BitVec.ofInt 64 (a : Int) ^^^ BitVec.ofInt 64 (b : Int)).toNat : Int) = _
  have k : (2 : Nat) ^ 64 = 18446744073709551616 := rfl
  have h := Nat.xor_lt_two_pow (n := 32) ha hb
  have k2 : (2 : Nat) ^ 32 = 4294967296 := rfl
  rw [bv64, bv64, BitVec.toNat_xor, BitVec.toNat_ofNat, BitVec.toNat_ofNat, wi64', k, Nat.mod_eq_of_lt (show a < 18446744073709551616 by omega), Nat.mod_eq_of_lt (show b < 18446744073709551616 by omega), w64 (by omega) (by omega)]
theorem shl_i64 {v k : Nat} (hk : k ≤ 64) (h : v * 2 ^ k < 9223372036854775808) : shl .i64 (v : Int) (k : Int) = ((v * 2 ^ k : Nat) : Int) := by
  unfold shl
  have e : min ((k : Int)).toNat IntKind.i64.bits = k := by
    have : IntKind.i64.bits = 64 := rfl
    rw [this, Int.toNat_natCast]
    omega
  have e2 : (v : Int) * 2 ^ k = ((v * 2 ^ k : Nat) : Int) := by push_cast; rfl
  rw [e, e2, wi64', w64 (by omega) (by omega)]
theorem shr_i64 {v k : Nat} (hk : k ≤ 64) : shr .i64 (v : Int) (k : Int) = ((v / 2 ^ k : Nat) : Int) := by
  unfold shr
  have e : min ((k : Int)).toNat IntKind.i64.bits = k := by
    have : IntKind.i64.bits = 64 := rfl
    rw [this, Int.toNat_natCast]
    omega
  have e2 : (v : Int) / 2 ^ k = ((v / 2 ^ k : Nat) : Int) := by push_cast; rfl
  rw [e, e2]
theorem shl_one {k : Nat} (hk : k ≤ 32) : shl .i64 1 (k : Int) = ((2 ^ k : Nat) : Int) := by
  have hp : (2 : Nat) ^ k ≤ 2 ^ 32 := Nat.pow_le_pow_right (by omega) hk
  have h32 : (2 : Nat) ^ 32 = 4294967296 := rfl
  have := shl_i64 (v := 1) (k := k) (by omega) (by omega)
  rw [Nat.one_mul] at this
  exact this
theorem w_pos {i w k : Nat} (h : i * w + k ≤ 1000000) : wrap64 (wrap64 ((i : Int) * (w : Int)) + (k : Int)) = ((i * w + k : Nat) : Int) := by
  rw [← Int.natCast_mul, w64 (n := ((i * w : Nat) : Int)) (by omega) (by omega), w64 (by omega) (by omega)]
  omega
theorem w_div {a w : Nat} (h : a ≤ 1000000) : wrap64 (Int.tdiv (a : Int) (w : Int)) = ((a / w : Nat) : Int) := by
  have := Nat.div_le_self a w
  show wrap64 ((a / w : Nat) : Int) = _
  generalize a / w = q at *
  exact w64 (by omega) (by omega)
theorem w_div8 {a : Nat} (h : a ≤ 1000000) : wrap64 (Int.tdiv (a : Int) 8) = ((a / 8 : Nat) : Int) := w_div (w := 8) h
theorem t_mod (a w : Nat) : Int.tmod (a : Int) (w : Int) = ((a % w : Nat) : Int) := rfl
theorem t_mod8 (a : Nat) : Int.tmod (a : Int) 8 = ((a % 8 : Nat) : Int) := rfl
theorem w_mul {a b : Nat} (h : a * b ≤ 1000000) : wrap64 ((a : Int) * (b : Int)) = ((a * b : Nat) : Int) := by rw [← Int.natCast_mul, w64 (by omega) (by omega)]
theorem w_eight {a : Nat} (h : a ≤ 1000000) : wrap64 (8 * (a : Int)) = ((8 * a : Nat) : Int) := by rw [w64 (by omega) (by omega)]; omega
theorem test_i64 {v k : Nat} (hk : k ≤ 64) (hv : v < 9223372036854775808) : (Go.bits .and .i64 (shr .i64 (v : Int) (k : Int)) 1 = 1) ↔ v.testBit k = true := by
  have := Nat.div_le_self v (2 ^ k)
  rw [shr_i64 hk, and_i64 (by omega), Nat.testBit_eq_decide_div_mod_eq, decide_eq_true_iff]
  omega
theorem getD_at (b : List Int) (i : Nat) (h : i < b.length) : b.getD i 0 = b[i] := by rw [List.getD_eq_getElem?_getD, List.getElem?_eq_getElem h]; rfl
theorem rd_getD (b : List Int) (i : Nat) : rd b (i : Int) = b.getD i 0 := by unfold rd; rw [Int.toNat_natCast]
theorem byt_at {b : List Int} (hb : byt b) (i : Nat) : ∃ x : Nat, b.getD i 0 = (x : Int) ∧ x < 256 := by
  by_cases h : i < b.length
  · rw [getD_at b i h]
    have := hb b[i] (List.getElem_mem h)
    exact ⟨b[i].toNat, by omega, by omega⟩
  · refine ⟨0, ?_, by omega⟩
    rw [List.getD_eq_getElem?_getD, List.getElem?_eq_none (by omega)]
    rfl
theorem byt_set {b : List Int} (hb : byt b) (i : Nat) {x : Nat} (hx : x < 256) : byt (b.set i (x : Int)) := by
  intro z hz
  rcases List.mem_or_eq_of_mem_set hz with h | h
  · exact hb z h
  · omega
theorem tb_set {b : List Int} {i x m : Nat} (hi : i < b.length) : tb (b.set i (x : Int)) m = if m / 8 = i then x.testBit (m % 8) else tb b m := by
  unfold tb
  by_cases h : m / 8 = i
  · rw [if_pos h, h, getD_at _ _ (by rw [List.length_set]; exact hi), List.getElem_set_self, Int.toNat_natCast]
  · rw [if_neg h, List.getD_eq_getElem?_getD, List.getElem?_set_ne (fun e => h e.symm), ← List.getD_eq_getElem?_getD]
theorem tb_or {b : List Int} (hb : byt b) {a m : Nat} (ha : a / 8 < b.length) : byt (b.set (a / 8) (Go.bits .or .u8 (b.getD (a / 8) 0) (shl .u8 1 ((a % 8 : Nat) : Int)))) ∧ tb (b.set (a / 8) (Go.bits .or .u8 (b.getD (a / 8) 0) (shl .u8 1 ((a % 8 : Nat) : Int)))) m = (tb b m || decide (m = a)) := by
  obtain ⟨x, ex, hx⟩ := byt_at hb (a / 8)
  obtain ⟨e1, e2⟩ := or_b x hx (a % 8) (by omega)
  rw [ex, e1]
  refine ⟨byt_set hb _ e2, ?_⟩
  rw [tb_set ha]
  by_cases h : m / 8 = a / 8
  · rw [if_pos h, Nat.testBit_or, Nat.testBit_two_pow]
    unfold tb
    rw [h, ex, Int.toNat_natCast]
    congr 1
    rw [decide_eq_decide]
    omega
  · rw [if_neg h, decide_eq_false (by omega), Bool.or_false]
theorem tb_xor {b : List Int} (hb : byt b) {a m : Nat} (ha : a / 8 < b.length) : byt (b.set (a / 8) (Go.bits .xor .u8 (b.getD (a / 8) 0) (shl .u8 1 ((a % 8 : Nat) : Int)))) ∧ tb (b.set (a / 8) (Go.bits .xor .u8 (b.getD (a / 8) 0) (shl .u8 1 ((a % 8 : Nat) : Int)))) m = (tb b m ^^ decide (m = a)) := by
  obtain ⟨x, ex, hx⟩ := byt_at hb (a / 8)
  obtain ⟨e1, e2⟩ := xor_b x hx (a % 8) (by omega)
  rw [ex, e1]
  refine ⟨byt_set hb _ e2, ?_⟩
  rw [tb_set ha]
  by_cases h : m / 8 = a / 8
  · rw [if_pos h, Nat.testBit_xor, Nat.testBit_two_pow]
    unfold tb
    rw [h, ex, Int.toNat_natCast]
    congr 1
    rw [decide_eq_decide]
    omega
  · rw [if_neg h, decide_eq_false (by omega), Bool.xor_false]
theorem bitz_is {b : List Int} (hb : byt b) (m : Nat) : X.bitz b m = if tb b m then 1 else 0 := by
  obtain ⟨x, ex, hx⟩ := byt_at hb (m / 8)
  have := bit_b x hx (m % 8) (by omega)
  unfold X.bitz tb
  rw [rd_getD, ex, Int.toNat_natCast]
  exact this
/-- Bytes that hold the bits of numbers. -/
def Enc (b : List Int) (w : Nat) (xs : List Int) : Prop := byt b ∧ b.length = (w * xs.length + 7) / 8 ∧ ∀ m, m < 8 * b.length → tb b m = (decide (m < xs.length * w) && bx xs w m)
def Fit (w : Nat) (xs : List Int) : Prop := ∀ x ∈ xs, 0 ≤ x ∧ x < 2 ^ w
theorem fit_at {w : Nat} {xs : List Int} (h : Fit w xs) (i : Nat) (hi : i < xs.length) : ∃ v : Nat, xs.getD i 0 = (v : Int) ∧ v < 2 ^ w := by
  rw [getD_at xs i hi]
  have := h xs[i] (List.getElem_mem hi)
  refine ⟨xs[i].toNat, by omega, ?_⟩
  have e : ((xs[i].toNat : Nat) : Int) < ((2 ^ w : Nat) : Int) := by push_cast; omega
  omega
theorem mul_lt_of {i k w n : Nat} (hi : i < n) (hk : k < w) : i * w + k < n * w := by
  have h3 : (i + 1) * w ≤ n * w := Nat.mul_le_mul_right w (by omega)
  rw [Nat.add_mul, Nat.one_mul] at h3
  omega
theorem div_of {i k w : Nat} (hk : k < w) : (i * w + k) / w = i := by rw [Nat.mul_comm, Nat.mul_add_div (by omega), Nat.div_eq_of_lt hk, Nat.add_zero]
theorem mod_of {i k w : Nat} (hk : k < w) : (i * w + k) % w = k := by rw [Nat.mul_comm, Nat.mul_add_mod, Nat.mod_eq_of_lt hk]
theorem acc_is {bz : Nat → Int} {w i v : Nat} (hw : w ≤ 32) (hb : ∀ k, k < w → bz (i * w + k) = if v.testBit k then 1 else 0) : ∀ k, k ≤ w → X.acc bz w i k = ((v % 2 ^ k : Nat) : Int)
  | 0, _ => by simp [X.acc, Nat.mod_one]
  | k + 1, hk => by
    have ih := acc_is hw hb k (by omega)
    have hp : (2 : Nat) ^ k ≤ 2 ^ 31 := Nat.pow_le_pow_right (by omega) (by omega)
    have h31 : (2 : Nat) ^ 31 = 2147483648 := rfl
    have hm := Nat.mod_lt v (show 0 < 2 ^ k from Nat.pow_pos (by omega))
    have eb : bz (i * w + k) = ((v / 2 ^ k % 2 : Nat) : Int) := by
      rw [hb k (by omega), Nat.testBit_eq_decide_div_mod_eq]
      have := Nat.mod_lt (v / 2 ^ k) (show 0 < 2 by omega)
      by_cases h : v / 2 ^ k % 2 = 1
      · rw [if_pos (decide_eq_true h), h]
        rfl
      · rw [if_neg (by simpa using h), show v / 2 ^ k % 2 = 0 by omega]
        rfl
    have hle : v / 2 ^ k % 2 * 2 ^ k ≤ 1 * 2 ^ k := Nat.mul_le_mul_right _ (by have := Nat.mod_lt (v / 2 ^ k) (show 0 < 2 by omega); omega)
    show Go.bits .or .i64 (X.acc bz w i k) (shl .i64 (bz (i * w + k)) (k : Int)) = _
    rw [ih, eb, shl_i64 (by omega) (by omega), or_i64 hm (by omega), Nat.mod_pow_succ, Nat.mul_comm (2 ^ k)]
theorem unp_is {b : List Int} {w : Nat} {xs : List Int} (hw : w ≤ 32) (he : Enc b w xs) (hf : Fit w xs) : X.unp (X.bitz b) w xs.length = xs := by
  unfold X.unp
  apply List.ext_getElem
  · simp
  intro i h1 h2
  rw [List.getElem_map, List.getElem_range]
  obtain ⟨v, ev, hv⟩ := fit_at hf i h2
  rw [acc_is (v := v) hw (fun k hk => ?_) w (Nat.le_refl _), Nat.mod_eq_of_lt hv, ← ev, getD_at xs i h2]
  have hlt := mul_lt_of h2 hk
  rw [bitz_is he.1, he.2.2 _ (by rw [he.2.1]; rw [Nat.mul_comm w]; omega), decide_eq_true hlt, Bool.true_and]
  unfold bx
  rw [div_of hk, mod_of hk, ev, Int.toNat_natCast]
theorem pad_is {b : List Int} {w : Nat} {xs : List Int} (he : Enc b w xs) : X.padb (X.bitz b) (w * xs.length) (8 * b.length) = true := by
  unfold X.padb
  rw [List.all_eq_true]
  intro j hj
  have := List.mem_range.1 hj
  rw [beq_iff_eq, bitz_is he.1, he.2.2 _ (by omega), decide_eq_false (by rw [Nat.mul_comm]; omega), Bool.false_and]
  rfl
theorem size_is {w n : Nat} (hw : w ≤ 32) (hn : n ≤ 2000) : codec_size.f (w : Int) (n : Int) = some (((w * n + 7) / 8 : Nat) : Int) := by
  have hwn : w * n ≤ 64000 := Nat.mul_le_mul hw hn
  unfold codec_size.f
  rw [← Int.natCast_mul, w64 (n := ((w * n : Nat) : Int)) (by omega) (by omega), w64 (n := ((w * n : Nat) : Int) + 7) (by omega) (by omega), Int.tdiv_eq_ediv_of_nonneg (by omega), w64 (by omega) (by omega)]
  rfl
theorem unpack_is {b : List Int} {w : Nat} {xs : List Int} (hw : w ≤ 32) (hn : xs.length ≤ 2000) (he : Enc b w xs) (hf : Fit w xs) : codec_Unpack.f b (w : Int) (xs.length : Int) = some (xs, 0) := by
  unfold codec_Unpack.f
  rw [if_neg (by omega), if_neg (by omega), size_is hw hn]
  show (if (b.length : Int) = (((w * xs.length + 7) / 8 : Nat) : Int) then _ else _) = _
  rw [if_pos (by rw [he.2.1])]
  simp only [Int.toNat_natCast, if_true]
  rw [if_pos (pad_is he), unp_is hw he hf]
/-! ### numbers packed -/
theorem pack_l1 {w : Nat} (hw : w ≤ 32) {xs : List Int} (hn : xs.length ≤ 2000) (i : Nat) (hi : i < xs.length) {v : Nat} (ev : xs.getD i 0 = (v : Int)) (hv : v < 2 ^ w) (Q : List Int × Int → Prop) (L : Nat) (hL : L = (w * xs.length + 7) / 8)
    (next : ∀ b, byt b → b.length = L → (∀ m, m < 8 * L → tb b m = (decide (m < (i + 1) * w) && bx xs w m)) → EvP (fun k => codec_Pack.l0 k (w : Int) b xs (xs.length : Int) ((i + 1 : Nat) : Int)) Q) (d : Nat) :
    ∀ (k : Nat) (b : List Int), k + d = w → byt b → b.length = L → (∀ m, m < 8 * L → tb b m = (decide (m < i * w + k) && bx xs w m)) →
      EvP (fun n => codec_Pack.l1 n (w : Int) b (i : Int) (xs.getD i 0) xs (xs.length : Int) (i : Int) (w : Int) (k : Int)) Q := by
  have hwn : w * xs.length ≤ 64000 := Nat.mul_le_mul hw hn
  have hv32 : v < 9223372036854775808 := by
    have hp : (2 : Nat) ^ w ≤ 2 ^ 32 := Nat.pow_le_pow_right (by omega) hw
    have h32 : (2 : Nat) ^ 32 = 4294967296 := rfl
    omega
  induction d with
  | zero =>
    intro k b hk hb hl ht
    refine EvP.step (fun n => by rw [codec_Pack.l1]) (EvP.neg (by omega) ?_)
    rw [w_succ (by omega)]
    refine next b hb hl (fun m hm => ?_)
    rw [ht m hm, Nat.add_mul, Nat.one_mul, show k = w by omega]
  | succ d ih =>
    intro k b hk hb hl ht
    have hkw : k < w := by omega
    have hlt := mul_lt_of hi hkw
    have hc := Nat.mul_comm w xs.length
    have hbx : bx xs w (i * w + k) = v.testBit k := by
      unfold bx
      rw [div_of hkw, mod_of hkw, ev, Int.toNat_natCast]
    have hia : (i * w + k) / 8 < b.length := by omega
    have ih' := ih (k + 1)
    clear ih
    have step : ∀ m : Nat, m < 8 * L → decide (m < i * w + (k + 1)) = (decide (m < i * w + k) || decide (m = i * w + k)) := by
      intro m hm
      rw [← Bool.decide_or, decide_eq_decide]
      omega
    refine EvP.step (fun n => by rw [codec_Pack.l1]) (EvP.pos (by omega) (EvP.pos (by omega) ?_))
    rw [w_pos (by omega), w_div8 (by omega), t_mod8, ev, w_succ (by omega), rd_getD]
    rw [ev] at ih'
    have hkd : k + 1 + d = w := by omega
    refine EvP.ite (fun ht1 => EvP.pos (by omega) (EvP.pos (by omega) (EvP.pos (by omega) ?_))) (fun ht1 => ?_)
    · have hbit := (test_i64 (by omega) hv32).1 ht1
      rw [Int.toNat_natCast]
      refine ih' _ hkd (tb_or hb (m := 0) hia).1 (by rw [List.length_set]; exact hl) (fun m hm => ?_)
      rw [(tb_or hb (m := m) hia).2, ht m hm, step m hm]
      by_cases hmm : m = i * w + k
      · rw [hmm, hbx, hbit]
        simp
      · rw [decide_eq_false hmm, Bool.or_false, Bool.or_false]
    · have hbit : v.testBit k = false := by
        cases h : v.testBit k with
        | false => rfl
        | true => exact absurd ((test_i64 (by omega) hv32).2 h) ht1
      refine ih' b hkd hb hl (fun m hm => ?_)
      rw [ht m hm, step m hm]
      by_cases hmm : m = i * w + k
      · rw [hmm, hbx, hbit]
        simp
      · rw [decide_eq_false hmm, Bool.or_false]
theorem pack_l0 {w : Nat} (hw : w ≤ 32) {xs : List Int} (hn : xs.length ≤ 2000) (hf : Fit w xs) (L : Nat) (hL : L = (w * xs.length + 7) / 8) (d : Nat) :
    ∀ (i : Nat) (b : List Int), i + d = xs.length → byt b → b.length = L → (∀ m, m < 8 * L → tb b m = (decide (m < i * w) && bx xs w m)) →
      EvP (fun n => codec_Pack.l0 n (w : Int) b xs (xs.length : Int) (i : Int)) (fun r => r.2 = 0 ∧ Enc r.1 w xs) := by
  induction d with
  | zero =>
    intro i b hi hb hl ht
    refine EvP.step (fun n => by rw [codec_Pack.l0]) (EvP.neg (by omega) (EvP.ret ⟨rfl, hb, by rw [hl, hL], fun m hm => ?_⟩))
    dsimp only at hm
    rw [hl] at hm
    rw [ht m hm, show i = xs.length by omega]
  | succ d ih =>
    intro i b hi hb hl ht
    have hlt : i < xs.length := by omega
    obtain ⟨v, ev, hv⟩ := fit_at hf i hlt
    refine EvP.step (fun n => by rw [codec_Pack.l0]) (EvP.pos (by omega) (EvP.pos (by omega) (EvP.pos (by omega) ?_)))
    rw [rd_getD, shl_one hw]
    refine EvP.neg (by rw [ev]; omega) (EvP.pos (by omega) (EvP.step (fun n => by rw [codec_Pack.j2]) (EvP.neg (by rw [ev, decide_eq_false (by omega)]; simp) ?_)))
    exact pack_l1 hw hn i hlt ev hv _ L hL (fun b' h1 h2 h3 => ih (i + 1) b' (by omega) h1 h2 h3) w 0 b (by omega) hb hl (fun m hm => by rw [ht m hm, Nat.add_zero])
theorem pack_is {w : Nat} (hw : w ≤ 32) {xs : List Int} (hn : xs.length ≤ 2000) (hf : Fit w xs) : EvP (fun n => codec_Pack.f n xs (w : Int)) (fun r => r.2 = 0 ∧ Enc r.1 w xs) := by
  have hwn : w * xs.length ≤ 64000 := Nat.mul_le_mul hw hn
  unfold codec_Pack.f
  refine EvP.neg (by omega) (EvP.step (fun n => by rw [codec_Pack.j0]) (EvP.neg (by simp; omega) (EvP.neg (by omega) ?_)))
  rw [size_is hw hn]
  refine EvP.bind1 (Ev.now _) (EvP.pos (by omega) (EvP.pos (by omega) ?_))
  rw [Int.toNat_natCast]
  refine pack_l0 hw hn hf _ rfl xs.length 0 _ (by omega) (fun x hx => ?_) (by rw [List.length_replicate]) (fun m hm => ?_)
  · rw [(List.mem_replicate.1 hx).2]
    omega
  · rw [decide_eq_false (by omega), Bool.false_and]
    unfold tb
    rw [List.getD_eq_getElem?_getD, List.getElem?_replicate]
    split <;> simp
/-! ### numbers out of a list -/
theorem keep_New (l0 : List Int) (h : ∀ x ∈ l0, (Lit.int .i64 x).wf = true) (hl : l0.length ≤ maxLen) : EvP (fun _ => shapesearchkeep_New.f l0) (fun r => Src r.1 r.2) := by
  have e : mn (l0.length : Int) 2000 = ((min l0.length 2000 : Nat) : Int) := by unfold mn; split <;> omega
  unfold shapesearchkeep_New.f
  rw [e]
  refine EvP.pos (by omega) (EvP.pos (by omega) (EvP.ret ?_))
  refine ⟨Int.le_refl _, by omega, by rw [List.length_take]; omega, fun x hx => b_i64 (h x (List.mem_of_mem_take hx))⟩
theorem keep_Raw (s : List Int) (a : Int) (h : Src s a) : EvP (fun _ => shapesearchkeep_Src_Raw.f s a) (fun r => Src s r.2 ∧ -9223372036854775808 ≤ r.1 ∧ r.1 ≤ 9223372036854775807) := by
  obtain ⟨h0, h1, h2, h3⟩ := h
  unfold shapesearchkeep_Src_Raw.f
  refine EvP.ite (fun hc => EvP.ret ⟨⟨h0, h1, h2, h3⟩, by omega, by omega⟩) (fun hc => ?_)
  have hw : wrap64 (a + 1) = a + 1 := w64 (by omega) (by omega)
  have hw2 : wrap64 (a + 1 - 1) = a := by rw [w64 (by omega) (by omega)]; omega
  rw [hw, hw2]
  have hm := h3 _ (rd_mem s a h0 (by omega))
  exact EvP.pos h0 (EvP.pos (by omega) (EvP.ret ⟨⟨by omega, by omega, h2, h3⟩, hm⟩))
theorem keep_Mod (a n : Int) (ha : -9223372036854775808 ≤ a) (ha' : a ≤ 9223372036854775807) (hn : 1 ≤ n) (hn' : n ≤ 9223372036854775807) : EvP (fun _ => shapesearchkeep_Mod.f a n) (fun t => 0 ≤ t ∧ t < n) := by
  have h1 := Int.tmod_lt_of_pos a (show 0 < n by omega)
  have h2 := Int.lt_tmod_of_pos a (show 0 < n by omega)
  unfold shapesearchkeep_Mod.f
  refine EvP.neg (by omega) (EvP.neg (by omega) (EvP.ite (fun hc => EvP.ret ?_) (fun hc => EvP.ret ?_)))
  · rw [w64 (by omega) (by omega)]
    omega
  · omega
theorem keep_N (s : List Int) (a n : Int) (h : Src s a) (hn : 1 ≤ n) (hn' : n ≤ 9223372036854775807) : EvP (fun _ => shapesearchkeep_Src_N.f s a n) (fun r => Src s r.2 ∧ 0 ≤ r.1 ∧ r.1 < n) := by
  unfold shapesearchkeep_Src_N.f
  refine EvP.bind (keep_Raw s a h) (fun x hx => EvP.bind (keep_Mod x.1 n hx.2.1 hx.2.2 hn hn') (fun t ht => EvP.ret ⟨hx.1, ht⟩))
theorem keep_Ints_l0 (x y : List Int) (hl : x.length = y.length) (hn : x.length ≤ 1000000000) (d : Nat) : ∀ i : Nat, i + d = x.length → Ev (fun k => shapesearchkeep_Ints.l0 k x y (x.length : Int) (i : Int)) (decide (x.drop i = y.drop i)) := by
  induction d with
  | zero =>
    intro i hi
    refine Ev.step (fun k => by rw [shapesearchkeep_Ints.l0]) (Ev.neg (by omega) ?_)
    rw [List.drop_eq_nil_of_le (by omega), List.drop_eq_nil_of_le (by omega)]
    exact Ev.now _
  | succ d ih =>
    intro i hi
    have hlt : i < x.length := by omega
    have hlt' : i < y.length := by omega
    refine Ev.step (fun k => by rw [shapesearchkeep_Ints.l0]) (Ev.pos (by omega) (Ev.pos (by omega) (Ev.pos (by omega) (Ev.pos (by omega) ?_))))
    have e : wrap64 ((i : Int) + 1) = ((i + 1 : Nat) : Int) := by rw [w64 (by omega) (by omega)]; omega
    rw [rd_nat x i hlt, rd_nat y i hlt', List.drop_eq_getElem_cons hlt, List.drop_eq_getElem_cons hlt', e]
    by_cases h : x[i] = y[i]
    · refine Ev.pos h ?_
      have : decide (x[i] :: x.drop (i + 1) = y[i] :: y.drop (i + 1)) = decide (x.drop (i + 1) = y.drop (i + 1)) := by rw [h, decide_eq_decide, List.cons.injEq]; exact ⟨fun e => e.2, fun e => ⟨rfl, e⟩⟩
      rw [this]
      exact ih (i + 1) (by omega)
    · rw [decide_eq_false (fun e' => h (List.cons.inj e').1)]
      exact Ev.neg h (Ev.now _)
theorem keep_Ints_is (x y : List Int) (hn : x.length ≤ 1000000000) : Ev (fun k => shapesearchkeep_Ints.f k x y) (decide (x = y)) := by
  unfold shapesearchkeep_Ints.f
  by_cases h : x.length = y.length
  · have := keep_Ints_l0 x y h hn x.length 0 (by omega)
    simp only [List.drop_zero] at this
    exact Ev.pos (by omega) this
  · rw [decide_eq_false (fun e => h (by rw [e]))]
    exact Ev.neg (by omega) (Ev.now _)
theorem awake_is : Ev (fun k => shapesearchlaw03_awake.f k) true := Ev.of shapesearchlaw03_awake.mono (k := 40) (by decide +kernel)
/-! ### the number of bits -/
def okL (n : Nat) (r : Option Int) : Bool := match r with
  | some t => decide (0 ≤ t ∧ t ≤ 8 ∧ n < 2 ^ t.toNat ∧ ((n = 0 ∧ t = 0) ∨ (1 ≤ t ∧ 2 ^ (t.toNat - 1) ≤ n)))
  | none => false
theorem len8 : ∀ n < 256, okL n (bits_Len.f 1 ((n : Nat) : Int)) = true := by decide +kernel
theorem len_tab (q : Nat) (hq : q < 256) : ∃ z : Int, (∀ k, bits_Len.f (k + 1) (q : Int) = some (wrap64 (0 + z))) ∧
    (∀ n : Nat, 256 ≤ n → n < 65536 → n / 256 = q → ∀ k, bits_Len.f (k + 1) (n : Int) = some (wrap64 (wrap64 (0 + 8) + z))) ∧
    (∀ n : Nat, 65536 ≤ n → n < 16777216 → n / 65536 = q → ∀ k, bits_Len.f (k + 1) (n : Int) = some (wrap64 (wrap64 (0 + 16) + z))) := by
  refine ⟨?z, fun k => ?_, fun n h1 h2 h3 k => ?_, fun n h1 h2 h3 k => ?_⟩
  rotate_left
  · unfold bits_Len.f bits_Len64.f
    rw [if_neg (by omega), bits_Len64.j0, if_neg (by omega), if_neg (by omega), if_pos (by omega), if_pos (by omega)]
    rfl
  · unfold bits_Len.f bits_Len64.f
    have e : (n : Int) / 256 = (q : Int) := by omega
    rw [if_neg (by omega), bits_Len64.j0, if_neg (by omega), if_pos (by omega), e, if_pos (by omega), if_pos (by omega)]
    rfl
  · unfold bits_Len.f bits_Len64.f
    have e : (n : Int) / 65536 = (q : Int) := by omega
    rw [if_neg (by omega), bits_Len64.j0, if_pos (by omega), e, if_neg (by omega), if_pos (by omega), if_pos (by omega)]
    rfl
theorem w_z8 {z : Int} (h0 : 0 ≤ wrap64 (0 + z)) (h1 : wrap64 (0 + z) ≤ 8) : wrap64 (wrap64 (0 + 8) + z) = 8 + wrap64 (0 + z) := by unfold wrap64 at *; omega
theorem w_z16 {z : Int} (h0 : 0 ≤ wrap64 (0 + z)) (h1 : wrap64 (0 + z) ≤ 8) : wrap64 (wrap64 (0 + 16) + z) = 16 + wrap64 (0 + z) := by unfold wrap64 at *; omega
theorem len_is {n : Nat} (hn : n < 524288) : ∃ t : Nat, Ev (fun k => bits_Len.f k (n : Int)) (t : Int) ∧ t ≤ 24 ∧ n < 2 ^ t ∧ ((n = 0 ∧ t = 0) ∨ (1 ≤ t ∧ 2 ^ (t - 1) ≤ n)) := by
  have tab : ∀ q : Nat, q < 256 → ∃ s : Nat, ∃ z : Int, wrap64 (0 + z) = (s : Int) ∧ s ≤ 8 ∧ q < 2 ^ s ∧ ((q = 0 ∧ s = 0) ∨ (1 ≤ s ∧ 2 ^ (s - 1) ≤ q)) ∧ (∀ k, bits_Len.f (k + 1) (q : Int) = some (wrap64 (0 + z))) ∧
      (∀ n : Nat, 256 ≤ n → n < 65536 → n / 256 = q → ∀ k, bits_Len.f (k + 1) (n : Int) = some (wrap64 (wrap64 (0 + 8) + z))) ∧
      (∀ n : Nat, 65536 ≤ n → n < 16777216 → n / 65536 = q → ∀ k, bits_Len.f (k + 1) (n : Int) = some (wrap64 (wrap64 (0 + 16) + z))) := by
    intro q hq
    obtain ⟨z, a, b, c⟩ := len_tab q hq
    have h := len8 q hq
    rw [a 0] at h
    have h' := of_decide_eq_true h
    refine ⟨(wrap64 (0 + z)).toNat, z, ?_, ?_, h'.2.2.1, ?_, a, b, c⟩
    · rw [Int.toNat_of_nonneg h'.1]
    · have h1 := h'.1
      have h2 := h'.2.1
      generalize wrap64 (0 + z) = y at *
      omega
    · rcases h'.2.2.2 with ⟨h1, h2⟩ | ⟨h1, h2⟩
      · exact .inl ⟨h1, by rw [h2]; rfl⟩
      · refine .inr ⟨?_, h2⟩
        generalize wrap64 (0 + z) = y at *
        omega
  have ev : ∀ (m : Nat) (r : Int), (∀ k, bits_Len.f (k + 1) (m : Int) = some r) → Ev (fun k => bits_Len.f k (m : Int)) r := fun m r h => Ev.step (f := fun _ => some r) h (Ev.now r)
  by_cases c1 : n < 256
  · obtain ⟨s, z, e, s8, h1, h2, h3, _, _⟩ := tab n c1
    refine ⟨s, ev n s (fun k => by rw [h3 k, e]), by omega, h1, h2⟩
  by_cases c2 : n < 65536
  · obtain ⟨s, z, e, s8, h1, h2, _, h3, _⟩ := tab (n / 256) (by omega)
    have h4 := h3 n (by omega) c2 rfl
    clear h3
    have e2 := w_z8 (z := z) (by rw [e]; omega) (by rw [e]; omega)
    rw [e] at e2
    refine ⟨8 + s, ev n _ (fun k => by rw [h4 k, e2]; rfl), by clear e2 e; omega, ?_, ?_⟩
    · clear e2 e
      rw [Nat.pow_add, show (2 : Nat) ^ 8 = 256 from rfl]
      omega
    · clear e2 e
      have hs : 1 ≤ s := by omega
      refine .inr ⟨by omega, ?_⟩
      rw [show 8 + s - 1 = 8 + (s - 1) by omega, Nat.pow_add, show (2 : Nat) ^ 8 = 256 from rfl]
      omega
  · obtain ⟨s, z, e, s8, h1, h2, _, _, h3⟩ := tab (n / 65536) (by omega)
    have h4 := h3 n (by omega) (by omega) rfl
    clear h3
    have e2 := w_z16 (z := z) (by rw [e]; omega) (by rw [e]; omega)
    rw [e] at e2
    refine ⟨16 + s, ev n _ (fun k => by rw [h4 k, e2]; rfl), by clear e2 e; omega, ?_, ?_⟩
    · clear e2 e
      rw [Nat.pow_add, show (2 : Nat) ^ 16 = 65536 from rfl]
      omega
    · clear e2 e
      have hs : 1 ≤ s := by omega
      refine .inr ⟨by omega, ?_⟩
      rw [show 16 + s - 1 = 16 + (s - 1) by omega, Nat.pow_add, show (2 : Nat) ^ 16 = 65536 from rfl]
      omega
def Low (w : Nat) (xs : List Int) : Prop := w = 0 ∨ ∃ x ∈ xs, ((2 ^ (w - 1) : Nat) : Int) ≤ x
def Sml (xs : List Int) : Prop := ∀ x ∈ xs, 0 ≤ x ∧ x < 524288
theorem sml_at {xs : List Int} (h : Sml xs) (i : Nat) (hi : i < xs.length) : ∃ v : Nat, xs.getD i 0 = (v : Int) ∧ v < 524288 := by
  rw [getD_at xs i hi]
  have := h xs[i] (List.getElem_mem hi)
  exact ⟨xs[i].toNat, by omega, by omega⟩
theorem wu64 (n : Int) : IntKind.u64.wrap n = n % 18446744073709551616 := by
  have e : (2 : Int) ^ IntKind.u64.bits = 18446744073709551616 := rfl
  simp [IntKind.wrap, IntKind.bits, IntKind.signed]
theorem mx_nat (t s : Nat) : mx (t : Int) (s : Int) = ((max t s : Nat) : Int) := by unfold mx; split <;> omega
theorem width_l0 {xs : List Int} (hn : xs.length ≤ 2000) (hx : Sml xs) (d : Nat) :
    ∀ (i t : Nat), i + d = xs.length → t ≤ 24 → (∀ j, j < i → (xs.getD j 0).toNat < 2 ^ t) → Low t xs →
      EvP (fun k => codec_Width.l0 k (t : Int) xs (xs.length : Int) (i : Int)) (fun r => ∃ w : Nat, r = (w : Int) ∧ w ≤ 24 ∧ Fit w xs ∧ Low w xs) := by
  induction d with
  | zero =>
    intro i t hi ht hj hl
    refine EvP.step (fun k => by rw [codec_Width.l0]) (EvP.neg (by omega) (EvP.ret ⟨t, rfl, ht, fun x hxx => ?_, hl⟩))
    obtain ⟨j, hjl, rfl⟩ := List.getElem_of_mem hxx
    have h1 := hj j (by omega)
    have h2 := hx xs[j] hxx
    rw [getD_at xs j hjl] at h1
    have ep : (2 : Int) ^ t = ((2 ^ t : Nat) : Int) := by push_cast; rfl
    rw [ep]
    omega
  | succ d ih =>
    intro i t hi ht hj hl
    have hlt : i < xs.length := by omega
    obtain ⟨v, ev, hv⟩ := sml_at hx i hlt
    obtain ⟨s, hs, s24, hvs, hsl⟩ := len_is hv
    refine EvP.step (fun k => by rw [codec_Width.l0]) (EvP.pos (by omega) (EvP.pos (by omega) (EvP.pos (by omega) ?_)))
    rw [rd_getD, ev, wu64, w_succ (by omega)]
    refine EvP.neg (by omega) (EvP.neg (by omega) ?_)
    rw [show (v : Int) % 18446744073709551616 = (v : Int) by omega]
    refine EvP.bind1 hs ?_
    rw [mx_nat]
    refine ih (i + 1) (max t s) (by omega) (by omega) (fun j hjj => ?_) ?_
    · have p1 : 2 ^ t ≤ 2 ^ max t s := Nat.pow_le_pow_right (by omega) (by omega)
      have p2 : 2 ^ s ≤ 2 ^ max t s := Nat.pow_le_pow_right (by omega) (by omega)
      by_cases hji : j = i
      · rw [hji, ev, Int.toNat_natCast]
        omega
      · have := hj j (by omega)
        omega
    · by_cases hts : s ≤ t
      · rw [Nat.max_eq_left hts]
        exact hl
      · rw [Nat.max_eq_right (by omega)]
        refine .inr ⟨xs[i], List.getElem_mem hlt, ?_⟩
        rw [← getD_at xs i hlt, ev]
        have h2 : 2 ^ (s - 1) ≤ v := by
          rcases hsl with h | h
          · omega
          · exact h.2
        omega
theorem pack_fail {w : Nat} (hw : w ≤ 32) {xs : List Int} (hn : xs.length ≤ 2000) (hx : Sml xs) (L : Nat) (hL : L = (w * xs.length + 7) / 8) (d : Nat) :
    ∀ (i : Nat) (b : List Int), i + d = xs.length → byt b → b.length = L → (∀ m, m < 8 * L → tb b m = (decide (m < i * w) && bx xs w m)) → (∃ j, i ≤ j ∧ j < xs.length ∧ ((2 ^ w : Nat) : Int) ≤ xs.getD j 0) →
      EvP (fun n => codec_Pack.l0 n (w : Int) b xs (xs.length : Int) (i : Int)) (fun r => r.2 = 1) := by
  induction d with
  | zero =>
    intro i b hi hb hl ht hex
    obtain ⟨j, h1, h2, _⟩ := hex
    omega
  | succ d ih =>
    intro i b hi hb hl ht hex
    have hlt : i < xs.length := by omega
    obtain ⟨v, ev, hv⟩ := sml_at hx i hlt
    refine EvP.step (fun n => by rw [codec_Pack.l0]) (EvP.pos (by omega) (EvP.pos (by omega) (EvP.pos (by omega) ?_)))
    rw [rd_getD, shl_one hw]
    refine EvP.neg (by rw [ev]; omega) (EvP.pos (by omega) (EvP.step (fun n => by rw [codec_Pack.j2]) ?_))
    by_cases hv2 : v < 2 ^ w
    · refine EvP.neg (by rw [ev, decide_eq_false (by omega)]; simp) ?_
      refine pack_l1 hw hn i hlt ev hv2 _ L hL (fun b' h1 h2 h3 => ih (i + 1) b' (by omega) h1 h2 h3 ?_) w 0 b (by omega) hb hl (fun m hm => by rw [ht m hm, Nat.add_zero])
      obtain ⟨j, h4, h5, h6⟩ := hex
      refine ⟨j, ?_, h5, h6⟩
      by_cases hji : j = i
      · rw [hji, ev] at h6
        omega
      · omega
    · exact EvP.pos (by rw [ev, decide_eq_true (by omega)]) (EvP.ret rfl)
theorem pack_less {w : Nat} (hw : w ≤ 24) {xs : List Int} (hn : xs.length ≤ 2000) (hx : Sml xs) (hl : Low w xs) : EvP (fun n => codec_Pack.f n xs (wrap64 ((w : Int) - 1))) (fun r => r.2 = 1) := by
  rcases Nat.eq_zero_or_pos w with h0 | h0
  · have e : wrap64 ((w : Int) - 1) = -1 := by rw [w64 (by omega) (by omega)]; omega
    rw [e]
    unfold codec_Pack.f
    exact EvP.pos (by omega) (EvP.step (fun n => by rw [codec_Pack.j0]) (EvP.pos rfl (EvP.ret rfl)))
  · have e : wrap64 ((w : Int) - 1) = ((w - 1 : Nat) : Int) := by rw [w64 (by omega) (by omega)]; omega
    rw [e]
    clear e
    have hwn : (w - 1) * xs.length ≤ 24 * 2000 := Nat.mul_le_mul (by omega) hn
    unfold codec_Pack.f
    refine EvP.neg (by omega) (EvP.step (fun n => by rw [codec_Pack.j0]) (EvP.neg (by simp; omega) (EvP.neg (by omega) ?_)))
    rw [size_is (by omega) hn]
    refine EvP.bind1 (Ev.now _) (EvP.pos (by omega) (EvP.pos (by omega) ?_))
    rw [Int.toNat_natCast]
    refine pack_fail (by omega) hn hx _ rfl xs.length 0 _ (by omega) (fun x hx => ?_) (by rw [List.length_replicate]) (fun m hm => ?_) ?_
    · rw [(List.mem_replicate.1 hx).2]
      omega
    · rw [decide_eq_false (by omega), Bool.false_and]
      unfold tb
      rw [List.getD_eq_getElem?_getD, List.getElem?_replicate]
      split <;> simp
    · rcases hl with h | ⟨x, hxx, hxl⟩
      · omega
      · obtain ⟨j, hj, rfl⟩ := List.getElem_of_mem hxx
        exact ⟨j, by omega, hj, by rw [getD_at xs j hj]; exact hxl⟩
theorem packs_j1 {w : Nat} (hw : w ≤ 24) {xs : List Int} (hn : xs.length ≤ 60) (hx : Sml xs) (hf : Fit w xs) (hl : Low w xs) : EvP (fun k => shapesearchlaw03_CodecPacks.j1 k xs (w : Int) false) (fun r => r = true) := by
  have hwn : w * xs.length ≤ 24 * 60 := Nat.mul_le_mul hw hn
  have hf2 : Fit (w + 1) xs := by
    intro x hxx
    have h1 := hf x hxx
    have e1 : (2 : Int) ^ w = ((2 ^ w : Nat) : Int) := by push_cast; rfl
    have e2 : (2 : Int) ^ (w + 1) = ((2 ^ (w + 1) : Nat) : Int) := by push_cast; rfl
    rw [e1] at h1
    rw [e2, Nat.pow_succ]
    omega
  have ew : mn 32 (wrap64 ((w : Int) + 1)) = ((w + 1 : Nat) : Int) := by
    rw [w64 (by omega) (by omega)]
    unfold mn
    split <;> omega
  refine EvP.step (fun k => by rw [shapesearchlaw03_CodecPacks.j1]) (EvP.neg (by simp) ?_)
  rw [ew]
  clear ew
  refine EvP.bind (pack_is (by omega) (by omega) hf) (fun r hr => ?_)
  rw [unpack_is (by omega) (by omega) hr.2 hf]
  refine EvP.bind1 (Ev.now _) (EvP.bind (pack_less hw (by omega) hx hl) (fun r2 hr2 => EvP.bind (pack_is (w := w + 1) (by omega) (by omega) hf2) (fun r3 hr3 => ?_)))
  rw [unpack_is (w := w + 1) (by omega) (by omega) hr3.2 hf2]
  refine EvP.bind1 (Ev.now _) (EvP.pos hr.1 (EvP.pos rfl ?_))
  refine EvP.bind1 (keep_Ints_is xs xs (by omega)) (EvP.pos (decide_eq_true rfl) (EvP.pos ?_ ?_))
  · rw [hr.2.2.1, ← Int.natCast_mul, Nat.mul_comm xs.length, w64 (n := ((w * xs.length : Nat) : Int)) (by omega) (by omega), w64 (n := ((w * xs.length : Nat) : Int) + 7) (by omega) (by omega), Int.tdiv_eq_ediv_of_nonneg (by omega), w64 (by omega) (by omega)]
    rfl
  refine EvP.pos hr2 (EvP.pos hr3.1 (EvP.pos rfl ?_))
  exact EvP.bind1 (keep_Ints_is xs xs (by omega)) (EvP.pos (decide_eq_true rfl) (EvP.bind1 awake_is (EvP.ret rfl)))
theorem width_is {xs : List Int} (hn : xs.length ≤ 2000) (hx : Sml xs) : EvP (fun k => codec_Width.f k xs) (fun r => ∃ w : Nat, r = (w : Int) ∧ w ≤ 24 ∧ Fit w xs ∧ Low w xs) := by
  have := width_l0 hn hx xs.length 0 0 (by omega) (by omega) (fun j hj => by omega) (.inl rfl)
  exact this
theorem packs_l0 (s : List Int) (d : Nat) :
    ∀ (xs : List Int) (c a : Int), c = d → Src s a → Sml xs → xs.length + d ≤ 60 → EvP (fun k => shapesearchlaw03_CodecPacks.l0 k xs c s a) (fun r => r = true) := by
  induction d with
  | zero =>
    intro xs c a hc hs hx hn
    refine EvP.step (fun k => by rw [shapesearchlaw03_CodecPacks.l0]) (EvP.neg (by omega) (EvP.bind (width_is (xs := xs) (by omega) hx) (fun r hr => ?_)))
    obtain ⟨w, rfl, hw, hf, hl⟩ := hr
    refine EvP.neg (by omega) ?_
    rw [decide_eq_false (show ¬ ((w : Int) > 32) by omega)]
    exact packs_j1 hw (by omega) hx hf hl
  | succ d ih =>
    intro xs c a hc hs hx hn
    refine EvP.step (fun k => by rw [shapesearchlaw03_CodecPacks.l0]) (EvP.pos (by omega) (EvP.bind (keep_N s a 20 hs (by omega) (by omega)) (fun p hp => EvP.pos hp.2.1 ?_)))
    obtain ⟨e, ee⟩ := Int.eq_ofNat_of_zero_le hp.2.1
    have h20 : e < 20 := by omega
    have p1 : (2 : Nat) ^ e ≤ 2 ^ 19 := Nat.pow_le_pow_right (by omega) (by omega)
    have p0 : 0 < (2 : Nat) ^ e := Nat.pow_pos (by omega)
    have h19 : (2 : Nat) ^ 19 = 524288 := rfl
    rw [ee, shl_one (by omega), w64 (n := c - 1) (by omega) (by omega)]
    refine EvP.bind (keep_N s p.2 ((2 ^ e : Nat) : Int) hp.1 (by omega) (by omega)) (fun y hy => EvP.pos (by omega) ?_)
    refine ih _ _ _ (by omega) hy.1 (fun x hxx => ?_) (by rw [List.length_append, List.length_singleton]; omega)
    rcases List.mem_append.1 hxx with h | h
    · exact hx x h
    · have : x = y.1 := by simpa using h
      rw [this]
      omega
theorem CodecPacks : shapesearchlaw03_CodecPacks.Pure := by
  intro l0 h1 h2 h3
  refine EvP.rounds ?_
  unfold shapesearchlaw03_CodecPacks.f
  refine EvP.bind (keep_New l0 h3 h1) (fun s hs => EvP.bind (keep_N s.1 s.2 60 hs (by omega) (by omega)) (fun p hp => ?_))
  exact packs_l0 s.1 p.1.toNat [] p.1 p.2 (by omega) hp.1 (fun x h => by cases h) (by simp; omega)

end Go.Proofs.Ytemeojkmchgkjaa.Pure
